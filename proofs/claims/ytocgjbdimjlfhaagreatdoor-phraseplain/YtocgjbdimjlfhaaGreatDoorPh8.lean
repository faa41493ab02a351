import Derived.Test.YtocgjbdimjlfhaaGreatDoorTie
import Derived.Test.YtocgjbdimjlfhaaGreatDoorCards
import Derived.Lay
import Derived.LaidLaws
import Derived.LaidOnce
import Derived.SevenTiedAt
import Derived.MakeChecks
import Derived.Handed
import Derived.Test.YtocgjbdimjlfhaaGreatDoorRows
import Derived.WalkKit
import Derived.ProofKit
import Derived.OpenShut
import Derived.ShutString
import Derived.ChangeOld
import Derived.Below
import Derived.SizedLaws
import Derived.SliceStrings
import Derived.WideKeyPair
import Derived.Test.YtocgjbdimjlfhaaGreatDoorPh6
import Derived.Test.YtocgjbdimjlfhaaGreatDoorPu3
import Derived.Test.YtocgjbdimjlfhaaGreatDoorPu1
/- Closed facts of the row PhrasePlain. No condition. -/
namespace Go.Proofs.YtocgjbdimjlfhaaGreatDoor.phrasePlain
set_option linter.unusedVariables false
theorem k0 : (Rows.phrasePlainRow.inPlace == Tryz.pinned.checked.prog.inPlace 13) = true := by kernel_rfl
theorem k1 : (Rows.phrasePlainRow.unfollowed == Tryz.pinned.checked.prog.unfollowed 13) = true := by kernel_rfl
theorem k2 : (Rows.phrasePlainRow.recurses == Tryz.pinned.checked.prog.recurses 13) = true := by kernel_rfl
theorem k3 : (Rows.phrasePlainRow.named == Tryz.pinned.checked.prog.varsNamed 13) = true := by kernel_rfl
theorem closed : joinedFacts Tryz.pinned.checked.prog 13 Tryz.f13 Rows.phrasePlainSpec Rows.phrasePlainRow = true := by
  unfold joinedFacts
  simp only [k0, k1, k2, k3]
  kernel_rfl
theorem byText : Rows.phrasePlainRow.wfByText (OpenSpec.ofChange Rows.phrasePlainSpec) = true := by kernel_rfl
theorem mainIs : Tryz.pinned.checked.prog.mainIs = some ((true, "6a8e5d7384cfcc131d58bdbb783b0a1006565c31bde8bf92522a2a8838e28f7e").1, (true, "6a8e5d7384cfcc131d58bdbb783b0a1006565c31bde8bf92522a2a8838e28f7e").2.toList) := by kernel_rfl
theorem looksAt : true = Tryz.pinned.checked.prog.looks [] := by kernel_rfl
theorem goesBy : false = Rows.phrasePlainRow.goesBy Tryz.pinned.checked.prog := by kernel_rfl
theorem noStand : ([9, 66].all fun u => !Tryz.prog.wantsStandIn u) = true := by kernel_rfl
theorem namedAt : Tryz.prog.funcNamed "concierge/conciergelaw22.PhrasePlain" = some 13 := by kernel_rfl
end Go.Proofs.YtocgjbdimjlfhaaGreatDoor.phrasePlain
/- Phrases: what the document fills is the plain text. No condition but on lengths. -/
namespace Go.Vm
open Go.Proofs
open Go.Lib (decodeL decodeN decodeL_N decode_N decodeN_shape decodeL_le)
set_option linter.unusedVariables false
set_option linter.unusedSimpArgs false
/-! ### members -/
def gapS (g : By) : Prop := ∃ b q, g = 37 :: b :: q ∧ (((b = 37 ∨ b = 98 ∨ b = 107 ∨ b = 109 ∨ b = 112) ∧ q = []) ∨ (b = 123 ∧ q ≠ []))
theorem gap_isS (r : By) (h : gapN (37 :: r) ≠ 0) : gapS ((37 :: r : By).take (gapN (37 :: r))) := by
  unfold gapN at h ⊢
  cases r with
  | nil => exact absurd rfl h
  | cons b q =>
    simp only at h ⊢
    by_cases hc : b = 37 ∨ b = 98 ∨ b = 107 ∨ b = 109 ∨ b = 112
    · rw [if_pos hc]
      exact ⟨b, [], rfl, .inl ⟨hc, rfl⟩⟩
    · rw [if_neg hc] at h ⊢
      by_cases hb : b = 123
      · rw [if_pos hb] at h ⊢
        by_cases hk : (q.takeWhile (fun c => c != 125)).length < q.length ∧ nmP (q.takeWhile (fun c => c != 125)) = true
        · rw [if_pos hk]
          refine ⟨b, q.take ((q.takeWhile (fun c => c != 125)).length + 1), ?_, ?_⟩
          · rw [show (q.takeWhile (fun c => c != 125)).length + 3 = ((q.takeWhile (fun c => c != 125)).length + 1) + 1 + 1 by omega, List.take_succ_cons, List.take_succ_cons]
          · refine .inr ⟨hb, ?_⟩
            intro hh
            have := congrArg List.length hh
            rw [List.length_take] at this
            simp only [List.length_nil] at this
            omega
        · rw [if_neg hk] at h; exact absurd rfl h
      · rw [if_neg hb] at h; exact absurd rfl h
end Go.Vm
/- Right texts, plainly. No condition. -/
namespace Go.Vm
open Go.Lib (decodeL decodeN decodeL_N decode_N decodeN_shape decodeL_le)
set_option linter.unusedVariables false
set_option linter.unusedSimpArgs false
def badN (l : List Int) : Bool := l.any fun n => decide (sortI n = 0)
def badR (l : List Int) : Unit ⊕ Bool × Unit := if badN l = true then .inr (false, ()) else .inl ()
theorem badR_nil : badR [] = .inl () := rfl
theorem badR_cons (n : Int) (l : List Int) : badR (n :: l) = if sortI n = 0 then .inr (false, ()) else badR l := by
  unfold badR badN
  by_cases h : sortI n = 0 <;> simp [h]
theorem refRightLoop (ns : List Int) (hn : ns.length ≤ 1000000000000) (k : Nat) (hk : k ≤ ns.length) : TendsL M_conciergeref04_Right_l0 (ns, (k : Int), ()) (badR (ns.drop k)) := by
  have main : ∀ n k, ns.length - k ≤ n → k ≤ ns.length → TendsL M_conciergeref04_Right_l0 (ns, (k : Int), ()) (badR (ns.drop k)) := by
    intro n
    induction n with
    | zero =>
      intro k hn hk
      have : k = ns.length := by omega
      subst this
      refine TendsL.fin (Tends.of fun F => ?_)
      unfold M_conciergeref04_Right_l0
      simp [badR_nil]
    | succ n ih =>
      intro k hn' hk
      by_cases hlt : k < ns.length
      · have h : (k : Int) < (ns.length : Int) := by omega
        have hm : ns[k]? = some ns[k] := by simp [hlt]
        rw [List.drop_eq_getElem_cons hlt, badR_cons]
        by_cases h0 : sortI ns[k] = 0
        · refine TendsL.fin (Tends.of fun F => ?_)
          unfold M_conciergeref04_Right_l0
          simp only [h, decide_true, if_true, idxAt ns k _ hm, refSort_eq, Option.bind_some, h0]
        · rw [if_neg h0]
          refine TendsL.step (x' := (ns, ((k + 1 : Nat) : Int), ())) (Tends.of fun F => ?_) (ih _ (by omega) (by omega))
          have w : IntKind.i64.wrap ((k : Int) + 1) = ((k + 1 : Nat) : Int) := by rw [wrap64 _ (by omega) (by omega)]; rfl
          unfold M_conciergeref04_Right_l0
          simp only [h, decide_true, if_true, idxAt ns k _ hm, refSort_eq, Option.bind_some, h0, decide_false, Bool.false_eq_true, if_false, w]
      · have : k = ns.length := by omega
        subst this
        refine TendsL.fin (Tends.of fun F => ?_)
        unfold M_conciergeref04_Right_l0
        simp [badR_nil]
  exact main _ k (Nat.le_refl _) hk
def rightB (s : List UInt8) (r : Int) : Bool := if s = [] ∨ r < (s.length : Int) then false else sumC (badR ((signs s).map (·.1))) (fun _ => true) fun v => v.1
theorem sumC_some {α β γ : Type} (x : α ⊕ β) (f : α → γ) (g : β → γ) : sumC x (fun a => some (f a)) (fun b => some (g b)) = some (sumC x f g) := by cases x <;> rfl
theorem refRight_tends (s : List UInt8) (hs : s.length ≤ 100000000000) (r : Int) : Tends (fun F => M_conciergeref04_Right F (s, r)) (rightB s r) := by
  unfold M_conciergeref04_Right rightB
  have hl := signs_len s
  by_cases h1 : s = []
  · simp only [h1, List.length_nil, true_or, if_true]
    exact Tends.ret false
  have h1' : ¬ (s.length : Int) < 1 := by have := List.length_pos_iff.2 h1; omega
  by_cases h2 : r < (s.length : Int)
  · simp only [h1, h1', h2, decide_true, decide_false, Bool.true_eq_false, if_false, Option.bind_some, if_true, or_true]
    exact Tends.ret false
  · simp only [h1, h1', h2, decide_true, decide_false, Bool.false_eq_true, if_false, Option.bind_some, if_true, or_self]
    refine (signs_tends s (by omega)).bind ?_
    have := refRightLoop ((signs s).map (·.1)) (by simp; omega) 0 (by omega)
    refine this.run.bind ?_
    rw [List.drop_zero]
    exact Tends.of fun F => sumC_some _ _ _
end Go.Vm
/- Phrases: small entries; what is let out is right; the law of fills. No condition but on lengths. -/
namespace Go.Vm
open Go.Proofs
open Go.Lib (decodeL decodeN decodeL_N decode_N decodeN_shape decodeL_le)
set_option linter.unusedVariables false
set_option linter.unusedSimpArgs false
/-! ### small entries -/
def smallE (e : EnT) : Bool := decide (e.key.length ≤ 100) && decide (e.2.2.2.2.2.2.1.length ≤ 100) && decide (e.2.2.2.2.2.2.2.2.2.2.1.length ≤ 100) && decide (e.method.length ≤ 100) && decide (e.path.length ≤ 100) && decide (e.body.length ≤ 100)
theorem small_he (e : EnT) (h : smallE e = true) : e.key.length ≤ 1000 ∧ e.method.length ≤ 1000 ∧ e.path.length ≤ 1000 ∧ e.body.length ≤ 1000 := by
  unfold smallE at h
  simp only [Bool.and_eq_true, decide_eq_true_eq] at h
  omega
theorem small_loop (l : List (Int × EnT)) (hl : l.length ≤ 1000000) : ∀ (n i : Nat), i + n = l.length → TendsL M_conciergelaw18_Small_l0 (l, (l.length : Int), (i : Int), ()) (if (l.drop i).all (fun r => smallE r.2) = true then .inl () else .inr (false, ()))
  | 0, i, h => by
    refine TendsL.fin (.of fun F => ?_)
    unfold M_conciergelaw18_Small_l0
    rw [if_neg (by rw [decide_eq_true_eq]; simp only; omega), List.drop_eq_nil_of_le (by omega)]
    rfl
  | n + 1, i, h => by
    have hi : i < l.length := by omega
    have hx : idx l (i : Int) = some l[i] := idx_at _ _ _ (List.getElem?_eq_getElem hi)
    have hw : IntKind.i64.wrap ((i : Int) + 1) = ((i + 1 : Nat) : Int) := by rw [wrap64 _ (by omega) (by omega)]; omega
    have ih := small_loop l hl n (i + 1) (by omega)
    rw [List.drop_eq_getElem_cons hi, List.all_cons]
    generalize l[i] = m at *
    obtain ⟨k, te, key, st, ep, tok, po, pr, le, ex, sta, tx, me, pa, bo, u⟩ := m
    have body : ∀ F, M_conciergelaw18_Small_l0 F (l, (l.length : Int), (i : Int), ()) = some (if smallE (te, key, st, ep, tok, po, pr, le, ex, sta, tx, me, pa, bo, u) = true then .inl (l, (l.length : Int), ((i + 1 : Nat) : Int), ()) else .inr (.inr (false, ()))) := by
      intro F
      unfold M_conciergelaw18_Small_l0 smallE
      rw [if_pos (by rw [decide_eq_true_eq]; simp only; omega)]
      have e1 : ∀ a : By, (100 : Int) < (a.length : Int) ↔ ¬ a.length ≤ 100 := fun a => by omega
      simp only [hx, Option.bind_some, e1]
      by_cases a1 : key.length ≤ 100
      · by_cases a2 : pr.length ≤ 100
        · by_cases a3 : tx.length ≤ 100
          · by_cases a4 : me.length ≤ 100
            · by_cases a5 : pa.length ≤ 100
              · by_cases a6 : bo.length ≤ 100
                · simp [a1, a2, a3, a4, a5, a6, hw]
                · simp [a1, a2, a3, a4, a5, a6, hw]
              · simp [a1, a2, a3, a4, a5, hw]
            · simp [a1, a2, a3, a4, hw]
          · simp [a1, a2, a3, hw]
        · simp [a1, a2, hw]
      · simp [a1, hw]
    by_cases hc : smallE (te, key, st, ep, tok, po, pr, le, ex, sta, tx, me, pa, bo, u) = true
    · rw [hc, Bool.true_and]
      exact TendsL.step (.of fun F => (body F).trans (by rw [if_pos hc])) ih
    · have hc' : smallE (te, key, st, ep, tok, po, pr, le, ex, sta, tx, me, pa, bo, u) = false := by simpa using hc
      rw [hc', Bool.false_and]
      exact TendsL.fin (.of fun F => (body F).trans (by rw [if_neg hc]; rfl))
theorem small_t (l : List (Int × EnT)) (most : Int) (hl : l.length ≤ 1000000) : Tends (fun F => M_conciergelaw18_Small F (l, most)) (decide ((l.length : Int) ≤ most) && l.all fun r => smallE r.2) := by
  unfold M_conciergelaw18_Small
  by_cases hm : most < (l.length : Int)
  · rw [decide_eq_false (p := (l.length : Int) ≤ most) (by omega), Bool.false_and]
    exact Tends.pos (decide_eq_true hm) (.ret _)
  rw [decide_eq_true (p := (l.length : Int) ≤ most) (by omega), Bool.true_and]
  refine Tends.neg (by rw [decide_eq_true_eq]; exact hm) ?_
  have h := small_loop l hl l.length 0 (by omega)
  rw [List.drop_zero] at h
  refine Tends.bind h.run ?_
  by_cases ha : (l.all fun r => smallE r.2) = true
  · rw [if_pos ha, ha]; exact .ret _
  · have ha' : (l.all fun r => smallE r.2) = false := by simpa using ha
    rw [if_neg ha, ha']; exact .ret _
/-! ### what is let out is right -/
theorem right_all (s : By) (r : Int) (h : rightB s r = true) : allS s = true := by
  unfold rightB at h
  split at h
  · cases h
  · unfold badR at h
    by_cases hb : badN ((signs s).map (·.1)) = true
    · rw [if_pos hb] at h; cases h
    · rw [allS_map, List.all_eq_true]
      intro n hn
      unfold badN at hb
      rw [List.any_eq_true] at hb
      by_cases h0 : sortI n = 0
      · exact absurd ⟨n, hn, decide_eq_true h0⟩ hb
      · exact decide_eq_true h0
end Go.Vm
