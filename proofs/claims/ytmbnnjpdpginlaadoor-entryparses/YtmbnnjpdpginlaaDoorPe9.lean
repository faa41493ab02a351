/- The laws of entries: plain. No condition. -/
import Derived.Test.YtmbnnjpdpginlaaDoorPe8
namespace Go.Vm
open Go Go.Proofs
set_option linter.unusedVariables false
set_option linter.unusedSimpArgs false

theorem awake14 : Tends (fun F => M_conciergelaw14_awake F ()) true := Tends.mono (fun F F' h => mo_conciergelaw14_awake h _) 40 (by kernel_rfl)
theorem large_eq (F : Nat) (e : Ent) : ∃ b : Bool, M_conciergelaw14_large F e.t = some b ∧ (b = false → e.small) := by
  unfold M_conciergelaw14_large
  have e1 : e.t.2.1 = e.key := rfl
  have e5 : e.t.2.2.2.2.2.2.1 = e.pr := rfl
  have e9 : e.t.2.2.2.2.2.2.2.2.2.2.1 = e.tx := rfl
  have em : e.t.2.2.2.2.2.2.2.2.2.2.2.1 = e.me := rfl
  have ep : e.t.2.2.2.2.2.2.2.2.2.2.2.2.1 = e.pa := rfl
  have eb : e.t.2.2.2.2.2.2.2.2.2.2.2.2.2.1 = e.bo := rfl
  by_cases h1 : 100 < (e.key.length : Int)
  · exact ⟨true, by simp [e1, h1], fun h => by cases h⟩
  by_cases h2 : 100 < (e.pr.length : Int)
  · exact ⟨true, by simp [e1, e5, h1, h2], fun h => by cases h⟩
  by_cases h3 : 100 < (e.tx.length : Int)
  · exact ⟨true, by simp [e1, e5, e9, h1, h2, h3], fun h => by cases h⟩
  by_cases h4 : 100 < (e.me.length : Int)
  · exact ⟨true, by simp [e1, e5, e9, em, h1, h2, h3, h4], fun h => by cases h⟩
  by_cases h5 : 100 < (e.pa.length : Int)
  · exact ⟨true, by simp [e1, e5, e9, em, ep, h1, h2, h3, h4, h5], fun h => by cases h⟩
  refine ⟨decide (100 < (e.bo.length : Int)), by simp [e1, e5, e9, em, ep, eb, h1, h2, h3, h4, h5], fun h => ?_⟩
  have h6 := of_decide_eq_false h
  unfold Ent.small
  omega

/-- BACK. -/
theorem pure_conciergelaw14_EntryBack (x : En) : ∃ F, M_conciergelaw14_EntryBack F x = some true := by
  obtain ⟨e, rfl⟩ := Ent.t_surj x
  refine Tends.ex ?_
  unfold M_conciergelaw14_EntryBack
  refine Tends.bind awake14 (Tends.neg (by simp) ?_)
  obtain ⟨b, hb, hs⟩ := large_eq 0 e
  refine Tends.bind (r := b) (.of fun F => hb) ?_
  cases b
  case true => exact Tends.pos rfl (.ret _)
  have hs := hs rfl
  have hmay := may_tends e (by have := hs.2.2.2.1; omega) (by have := hs.2.2.2.2.1; omega) (by have := hs.2.2.2.2.2; omega)
  refine Tends.neg (by simp) (Tends.bind (epack_tends e hs) (Tends.bind (rmay_tends e) ?_))
  by_cases hm : mayB e = true
  · rw [hm] at hmay ⊢
    have hl := bytesE_len hm
    refine Tends.neg (by simp) (Tends.bind (m := fun F => M_entry_Open F (bytesE e)) (eopen_tends (bytesE e) (by omega)) ?_)
    have ho : openR (bytesE e) = (e.t, 0) := by unfold openR; rw [(openE_iff _ e).2 ⟨hm, rfl⟩]
    rw [ho]
    refine Tends.bind (r := ((), bytesE e, (), 0, true, e.t, e.t, ())) (Tends.pos rfl (Tends.bind (rbytes_tends e hm) (.of fun F => by simp))) ?_
    refine Tends.bind (r := ((), (), 0, true, e.t, e.t, ())) (Tends.pos rfl (.of fun F => by simp; omega)) ?_
    refine Tends.bind (r := ((), (), 0, true, e.t, e.t, ())) (Tends.pos rfl (Tends.bind hmay (.ret _))) ?_
    refine Tends.bind (r := ((), (), true, e.t, e.t, ())) (Tends.pos rfl (.ret _)) ?_
    refine Tends.bind (r := (true, ())) (Tends.pos rfl (.of fun F => congrArg (fun z => some (z, ())) ((eqE_eq e e).trans (decide_eq_true rfl)))) (.ret _)
  · rw [Bool.eq_false_iff.2 hm] at hmay ⊢
    refine Tends.pos rfl ?_
    refine Tends.bind (r := ((), true, e.t, ())) (Tends.pos rfl (.of fun F => by simp)) ?_
    exact Tends.bind (r := (true, ())) (Tends.pos rfl (Tends.bind hmay (.ret _))) (.ret _)

/-- ANY. -/
theorem pure_conciergelaw14_EntryAny (s : List UInt8) : ∃ F, M_conciergelaw14_EntryAny F s = some true := by
  refine Tends.ex ?_
  unfold M_conciergelaw14_EntryAny
  refine Tends.bind awake14 (Tends.neg (by simp) ?_)
  by_cases h : 300 < s.length
  · exact Tends.pos (by simp; omega) (.ret _)
  refine Tends.neg (by simp; omega) (Tends.bind (eopen_tends s (by omega)) (Tends.bind (ropen_tends s (by omega)) ?_))
  unfold openR ropenR
  cases openE s with
  | none => exact Tends.pos rfl (.of fun F => rfl)
  | some e =>
    refine Tends.neg (by simp) (Tends.bind (r := (true, ())) (Tends.pos rfl (.of fun F => congrArg (fun z => some (z, ())) ((eqE_eq e e).trans (decide_eq_true rfl)))) (.ret _))

theorem bytes_cmp {a b : Ent} (ha : mayB a = true) (hb : mayB b = true) (hl : (bytesE a).length ≤ (bytesE b).length) : decide ((bytesE b).take (bytesE a).length = bytesE a) = decide (a = b) := by
  rw [Bool.eq_iff_iff]
  simp only [decide_eq_true_eq]
  constructor
  · intro h
    have e : bytesE b = bytesE a ++ (bytesE b).drop (bytesE a).length := by
      have := List.take_append_drop (bytesE a).length (bytesE b)
      rw [h] at this
      exact this.symm
    exact (bytes_free ha hb e).1
  · rintro rfl
    simp

/-- UNLIKE. -/
theorem pure_conciergelaw14_EntryUnlike (x y : En) : ∃ F, M_conciergelaw14_EntryUnlike F (x, y) = some true := by
  obtain ⟨a, rfl⟩ := Ent.t_surj x
  obtain ⟨b, rfl⟩ := Ent.t_surj y
  refine Tends.ex ?_
  unfold M_conciergelaw14_EntryUnlike
  refine Tends.bind awake14 (Tends.neg (by simp) ?_)
  obtain ⟨c, hc, hsa⟩ := large_eq 0 a
  obtain ⟨d, hd, hsb⟩ := large_eq 0 b
  refine Tends.bind (r := ((), (), c || d, a.t, b.t, ())) (Tends.bind (r := c) (.of fun F => hc) ?_) ?_
  · cases c
    · exact Tends.pos rfl (Tends.bind (r := d) (.of fun F => hd) (.ret _))
    · exact Tends.neg (by simp) (.ret _)
  cases c
  case true => exact Tends.pos rfl (.ret _)
  cases d
  case true => exact Tends.pos rfl (.ret _)
  have hsa := hsa rfl
  have hsb := hsb rfl
  refine Tends.neg (by simp) (Tends.bind (epack_tends a hsa) (Tends.bind (epack_tends b hsb) ?_))
  by_cases ha : mayB a = true
  · by_cases hb : mayB b = true
    · rw [ha, hb, if_pos rfl, if_pos rfl]
      refine Tends.bind (r := ((), (), bytesE a, bytesE b, false, a.t, b.t, ())) (.of fun F => rfl) (Tends.neg (by simp) ?_)
      by_cases hl : (bytesE b).length < (bytesE a).length
      · refine Tends.bind (r := ((), (), bytesE b, bytesE a, a.t, b.t, ())) (Tends.pos (by simp; omega) (.ret _)) ?_
        have hs : sub (bytesE a) 0 ((bytesE b).length : Int) = some ((bytesE a).take (bytesE b).length) := by simpa using subN (bytesE a) 0 (bytesE b).length (by omega) (by omega)
        refine Tends.bind (r := (true, ())) (Tends.bind (.const hs) (.of fun F => ?_)) (.ret _)
        have h1 := bytes_cmp hb ha (by omega)
        have h2 : decide (b = a) = decide (a = b) := by rw [decide_eq_decide]; exact eq_comm
        refine congrArg (fun z => some (z, ())) ?_
        show (decide ((bytesE a).take (bytesE b).length = bytesE b) == eqE a.t b.t) = true
        rw [h1, h2, eqE_eq]
        simp
      · refine Tends.bind (r := ((), (), bytesE a, bytesE b, a.t, b.t, ())) (Tends.neg (by simp; omega) (.ret _)) ?_
        have hs : sub (bytesE b) 0 ((bytesE a).length : Int) = some ((bytesE b).take (bytesE a).length) := by simpa using subN (bytesE b) 0 (bytesE a).length (by omega) (by omega)
        refine Tends.bind (r := (true, ())) (Tends.bind (.const hs) (.of fun F => ?_)) (.ret _)
        have h1 := bytes_cmp ha hb (by omega)
        refine congrArg (fun z => some (z, ())) ?_
        show (decide ((bytesE b).take (bytesE a).length = bytesE a) == eqE a.t b.t) = true
        rw [h1, eqE_eq]
        simp
    · rw [ha, Bool.eq_false_iff.2 hb]
      refine Tends.bind (r := ((), (), bytesE a, [], true, a.t, b.t, ())) (.of fun F => rfl) (Tends.pos rfl ?_)
      refine Tends.bind (r := (true, ())) (Tends.bind (rmay_tends a) ?_) (.ret _)
      rw [ha]
      refine Tends.pos rfl (Tends.bind (rmay_tends b) (.of fun F => ?_))
      rw [Bool.eq_false_iff.2 hb]
      rfl
  · rw [Bool.eq_false_iff.2 ha, if_neg (by simp)]
    refine Tends.bind (r := ((), (), [], (if mayB b = true then (bytesE b, (0 : Int)) else ([], 1)).1, true, a.t, b.t, ())) (.of fun F => rfl) (Tends.pos rfl ?_)
    refine Tends.bind (r := (true, ())) (Tends.bind (rmay_tends a) ?_) (.ret _)
    rw [Bool.eq_false_iff.2 ha]
    exact Tends.neg (by simp) (.ret _)

/-- RECORDS. -/
theorem pure_conciergelaw14_EntryRecords (x : Int × En) : ∃ F, M_conciergelaw14_EntryRecords F x = some true := by
  obtain ⟨k, x⟩ := x
  obtain ⟨e, rfl⟩ := Ent.t_surj x
  refine Tends.ex ?_
  unfold M_conciergelaw14_EntryRecords
  refine Tends.bind awake14 (Tends.neg (by simp) ?_)
  obtain ⟨b, hb, hs⟩ := large_eq 0 e
  refine Tends.bind (r := b) (.of fun F => hb) ?_
  cases b
  case true => exact Tends.pos rfl (.ret _)
  have hs := hs rfl
  refine Tends.neg (by simp) (Tends.bind (erec_tends k e hs) (Tends.bind (rmayR_tends k e) ?_))
  by_cases hm : mayR k e = true
  · rw [hm]
    have hl := bytesR_len hm
    refine Tends.neg (by simp) (Tends.bind (m := fun F => M_entry_Parse F (bytesR k e)) (eparse_tends (bytesR k e) (by omega)) ?_)
    have ho : parsR (bytesR k e) = ((k, e.t), 0) := by unfold parsR; rw [(parseR_iff _ k e).2 ⟨hm, rfl⟩]
    rw [ho]
    refine Tends.bind (r := ((), bytesR k e, (), 0, true, (k, e.t), (k, e.t), ())) (Tends.pos rfl (Tends.bind (rbytesR_tends k e hm) (.of fun F => by simp))) ?_
    refine Tends.bind (r := ((), (), 0, true, (k, e.t), (k, e.t), ())) (Tends.pos rfl (.of fun F => by simp; omega)) ?_
    refine Tends.bind (r := ((), (), true, (k, e.t), (k, e.t), ())) (Tends.pos rfl (.ret _)) ?_
    refine Tends.bind (r := (true, ())) (Tends.pos rfl (.of fun F => congrArg (fun z => some (z, ())) (show (decide (k = k) && (eqE e.t e.t && true)) = true by rw [eqE_eq]; simp))) (.ret _)
  · rw [Bool.eq_false_iff.2 hm]
    refine Tends.pos rfl ?_
    exact Tends.bind (r := (true, ())) (Tends.pos rfl (.of fun F => by simp)) (.ret _)

/-- PARSES. -/
theorem pure_conciergelaw14_EntryParses (s : List UInt8) : ∃ F, M_conciergelaw14_EntryParses F s = some true := by
  refine Tends.ex ?_
  unfold M_conciergelaw14_EntryParses
  refine Tends.bind awake14 (Tends.neg (by simp) ?_)
  by_cases h : 300 < s.length
  · exact Tends.pos (by simp; omega) (.ret _)
  refine Tends.neg (by simp; omega) (Tends.bind (eparse_tends s (by omega)) (Tends.bind (rparse_tends s (by omega)) ?_))
  unfold parsR rparsR
  cases parseR s with
  | none => exact Tends.pos rfl (.of fun F => rfl)
  | some x =>
    obtain ⟨k, e⟩ := x
    refine Tends.neg (by simp) (Tends.bind (r := (true, ())) (Tends.pos rfl (.of fun F => congrArg (fun z => some (z, ())) (show (decide (k = k) && (eqE e.t e.t && true)) = true by rw [eqE_eq]; simp))) (.ret _))

end Go.Vm
