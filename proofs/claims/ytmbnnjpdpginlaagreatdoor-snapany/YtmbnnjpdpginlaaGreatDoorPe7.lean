/- Entries opened: the program's and the document's. No condition. -/
import Derived.Test.YtmbnnjpdpginlaaGreatDoorPe6
namespace Go.Vm
open Go Go.Proofs
set_option linter.unusedVariables false
set_option linter.unusedSimpArgs false

theorem oread_tends (st : OS) : Tends (fun F => M_entry_read F (st3 st)) ((oEnt st).1.t, st3 (oEnt st).2) := by
  obtain ⟨⟨te, s1⟩, h1⟩ : ∃ x, x = oNum 4 st := ⟨_, rfl⟩
  obtain ⟨⟨key, s2⟩, h2⟩ : ∃ x, x = oText 24 s1 := ⟨_, rfl⟩
  obtain ⟨⟨sta, s3⟩, h3⟩ : ∃ x, x = oNum 3 s2 := ⟨_, rfl⟩
  obtain ⟨⟨ep, s4⟩, h4⟩ : ∃ x, x = oNum 1073741824 s3 := ⟨_, rfl⟩
  obtain ⟨⟨tk, s5⟩, h5⟩ : ∃ x, x = oNum 1073741824 s4 := ⟨_, rfl⟩
  obtain ⟨⟨pt, s6⟩, h6⟩ : ∃ x, x = oNum 5 s5 := ⟨_, rfl⟩
  obtain ⟨⟨pr, s7⟩, h7⟩ : ∃ x, x = oRaw 32 s6 := ⟨_, rfl⟩
  obtain ⟨⟨le, s8⟩, h8⟩ : ∃ x, x = oNum 1099511627776 s7 := ⟨_, rfl⟩
  obtain ⟨⟨ex, s9⟩, h9⟩ : ∃ x, x = oNum 1099511627776 s8 := ⟨_, rfl⟩
  have t1 := onum_tends st 4 (by omega)
  have t2 := otext_tends s1 24 (by omega)
  have t3 := onum_tends s2 3 (by omega)
  have t4 := onum_tends s3 1073741824 (by omega)
  have t5 := onum_tends s4 1073741824 (by omega)
  have t6 := onum_tends s5 5 (by omega)
  have t7 : ∀ F, M_pack_Opener_Raw F (st3 s6, ((32 : Nat) : Int)) = some (pr, st3 s7) := fun F => by rw [oraw_eq, ← h7]
  have t8 := onum_tends s7 1099511627776 (by omega)
  have t9 := onum_tends s8 1099511627776 (by omega)
  rw [← h1] at t1
  rw [← h2] at t2
  rw [← h3] at t3
  rw [← h4] at t4
  rw [← h5] at t5
  rw [← h6] at t6
  rw [← h8] at t8
  rw [← h9] at t9
  have e : oEnt st = oTail te key sta ep tk pt pr le ex s9 := by
    unfold oEnt obind
    rw [← h1]; simp only
    rw [← h2]; simp only
    rw [← h3]; simp only
    rw [← h4]; simp only
    rw [← h5]; simp only
    rw [← h6]; simp only
    rw [← h7]; simp only
    rw [← h8]; simp only
    rw [← h9]
  rw [e]
  unfold M_entry_read
  refine Tends.bind (r := ((), (), (), st3 s9, Ent.zero.t, (te, key, sta, ep, tk, pt, pr, le, ex, 0, [], [], [], [], ()), ())) ?_ ?_
  · refine Tends.bind t1 (Tends.bind t2 (Tends.bind t3 (Tends.bind t4 (Tends.bind t5 (Tends.bind t6 (Tends.bind (m := fun F => M_pack_Opener_Raw F (st3 s6, ((32 : Nat) : Int))) (.of t7) (Tends.bind t8 (Tends.bind t9 (.ret _)))))))))
  unfold oTail
  by_cases c1 : sta = 1
  · rw [if_pos c1]
    obtain ⟨⟨me, q1⟩, g1⟩ : ∃ x, x = oText 8 s9 := ⟨_, rfl⟩
    obtain ⟨⟨pa, q2⟩, g2⟩ : ∃ x, x = oText 60 q1 := ⟨_, rfl⟩
    obtain ⟨⟨bo, q3⟩, g3⟩ : ∃ x, x = oText 80 q2 := ⟨_, rfl⟩
    have u1 := otext_tends s9 8 (by omega)
    have u2 := otext_tends q1 60 (by omega)
    have u3 := otext_tends q2 80 (by omega)
    rw [← g1] at u1
    rw [← g2] at u2
    rw [← g3] at u3
    unfold obind oret
    rw [← g1]; simp only
    rw [← g2]; simp only
    rw [← g3]; simp only
    refine Tends.bind (Tends.pos (decide_eq_true c1) (Tends.bind u1 (Tends.bind u2 (Tends.bind u3 (.ret _))))) (.ret _)
  · rw [if_neg c1]
    by_cases c2 : sta = 2
    · rw [if_pos c2]
      obtain ⟨⟨su, q1⟩, g1⟩ : ∃ x, x = oNum 503 s9 := ⟨_, rfl⟩
      obtain ⟨⟨tx, q2⟩, g2⟩ : ∃ x, x = oText 40 q1 := ⟨_, rfl⟩
      have u1 := onum_tends s9 503 (by omega)
      have u2 := otext_tends q1 40 (by omega)
      rw [← g1] at u1
      rw [← g2] at u2
      unfold obind oret
      rw [← g1]; simp only
      rw [← g2]; simp only
      refine Tends.bind (Tends.neg (fun h => c1 (of_decide_eq_true h)) (Tends.pos (decide_eq_true c2) (Tends.bind u1 (Tends.bind u2 (.ret _))))) (.ret _)
    · rw [if_neg c2]
      refine Tends.bind (Tends.neg (fun h => c1 (of_decide_eq_true h)) (Tends.neg (fun h => c2 (of_decide_eq_true h)) (.ret _))) (.ret _)

theorem rread_len (st : OS) : True := trivial
theorem rEread_tends (st : OS) (hs : st.1.length ≤ 1000000) : Tends (fun F => M_conciergeref14_Read_entry F (st3 st)) ((rEnt st).1.t, st3 (rEnt st).2) := by
  obtain ⟨⟨te, s1⟩, h1⟩ : ∃ x, x = rNum st := ⟨_, rfl⟩
  obtain ⟨⟨key, s2⟩, h2⟩ : ∃ x, x = rText s1 := ⟨_, rfl⟩
  obtain ⟨⟨sta, s3⟩, h3⟩ : ∃ x, x = rNum s2 := ⟨_, rfl⟩
  obtain ⟨⟨ep, s4⟩, h4⟩ : ∃ x, x = rNum s3 := ⟨_, rfl⟩
  obtain ⟨⟨tk, s5⟩, h5⟩ : ∃ x, x = rNum s4 := ⟨_, rfl⟩
  obtain ⟨⟨pt, s6⟩, h6⟩ : ∃ x, x = rNum s5 := ⟨_, rfl⟩
  obtain ⟨⟨pr, s7⟩, h7⟩ : ∃ x, x = rRaw 32 s6 := ⟨_, rfl⟩
  obtain ⟨⟨le, s8⟩, h8⟩ : ∃ x, x = rNum s7 := ⟨_, rfl⟩
  obtain ⟨⟨ex, s9⟩, h9⟩ : ∃ x, x = rNum s8 := ⟨_, rfl⟩
  have l1 := rNum_len st
  rw [← h1] at l1
  have l2 := rText_len s1
  rw [← h2] at l2
  have l3 := rNum_len s2
  rw [← h3] at l3
  have l4 := rNum_len s3
  rw [← h4] at l4
  have l5 := rNum_len s4
  rw [← h5] at l5
  have l6 := rNum_len s5
  rw [← h6] at l6
  have l7 := rRaw_len 32 s6
  rw [← h7] at l7
  have l8 := rNum_len s7
  rw [← h8] at l8
  have l9 := rNum_len s8
  rw [← h9] at l9
  simp only at l1 l2 l3 l4 l5 l6 l7 l8 l9
  have t1 := rnumr_tends st (by omega)
  have t2 := rtextr_tends s1 (by omega)
  have t3 := rnumr_tends s2 (by omega)
  have t4 := rnumr_tends s3 (by omega)
  have t5 := rnumr_tends s4 (by omega)
  have t6 := rnumr_tends s5 (by omega)
  have t7 : ∀ F, M_conciergeref14_Read_Raw F (st3 s6, ((32 : Nat) : Int)) = some (pr, st3 s7) := fun F => by rw [rraw_eq, ← h7]
  have t8 := rnumr_tends s7 (by omega)
  have t9 := rnumr_tends s8 (by omega)
  rw [← h1] at t1
  rw [← h2] at t2
  rw [← h3] at t3
  rw [← h4] at t4
  rw [← h5] at t5
  rw [← h6] at t6
  rw [← h8] at t8
  rw [← h9] at t9
  have e : rEnt st = rTail te key sta ep tk pt pr le ex s9 := by
    unfold rEnt obind
    rw [← h1]; simp only
    rw [← h2]; simp only
    rw [← h3]; simp only
    rw [← h4]; simp only
    rw [← h5]; simp only
    rw [← h6]; simp only
    rw [← h7]; simp only
    rw [← h8]; simp only
    rw [← h9]
  rw [e]
  unfold M_conciergeref14_Read_entry
  refine Tends.bind t1 (Tends.bind t2 (Tends.bind t3 (Tends.bind t4 (Tends.bind t5 (Tends.bind t6 (Tends.bind (m := fun F => M_conciergeref14_Read_Raw F (st3 s6, ((32 : Nat) : Int))) (.of t7) (Tends.bind t8 (Tends.bind t9 ?_))))))))
  unfold rTail
  by_cases c1 : sta = 1
  · rw [if_pos c1]
    have c2 : ¬ sta = 2 := by omega
    obtain ⟨⟨me, q1⟩, g1⟩ : ∃ x, x = rText s9 := ⟨_, rfl⟩
    obtain ⟨⟨pa, q2⟩, g2⟩ : ∃ x, x = rText q1 := ⟨_, rfl⟩
    obtain ⟨⟨bo, q3⟩, g3⟩ : ∃ x, x = rText q2 := ⟨_, rfl⟩
    have k1 := rText_len s9
    rw [← g1] at k1
    have k2 := rText_len q1
    rw [← g2] at k2
    simp only at k1 k2
    have u1 := rtextr_tends s9 (by omega)
    have u2 := rtextr_tends q1 (by omega)
    have u3 := rtextr_tends q2 (by omega)
    rw [← g1] at u1
    rw [← g2] at u2
    rw [← g3] at u3
    unfold obind oret
    rw [← g1]; simp only
    rw [← g2]; simp only
    rw [← g3]; simp only
    refine Tends.bind (Tends.pos (decide_eq_true c1) (Tends.bind u1 (Tends.bind u2 (Tends.bind u3 (.ret _))))) (Tends.bind (Tends.neg (fun h => c2 (of_decide_eq_true h)) (.ret _)) (.ret _))
  · rw [if_neg c1]
    refine Tends.bind (Tends.neg (fun h => c1 (of_decide_eq_true h)) (.ret _)) ?_
    by_cases c2 : sta = 2
    · rw [if_pos c2]
      obtain ⟨⟨su, q1⟩, g1⟩ : ∃ x, x = rNum s9 := ⟨_, rfl⟩
      obtain ⟨⟨tx, q2⟩, g2⟩ : ∃ x, x = rText q1 := ⟨_, rfl⟩
      have k1 := rNum_len s9
      rw [← g1] at k1
      simp only at k1
      have u1 := rnumr_tends s9 (by omega)
      have u2 := rtextr_tends q1 (by omega)
      rw [← g1] at u1
      rw [← g2] at u2
      unfold obind oret
      rw [← g1]; simp only
      rw [← g2]; simp only
      refine Tends.bind (Tends.pos (decide_eq_true c2) (Tends.bind u1 (Tends.bind u2 (.ret _)))) (.ret _)
    · rw [if_neg c2]
      refine Tends.bind (Tends.neg (fun h => c2 (of_decide_eq_true h)) (.ret _)) (.ret _)

/-! ### what was read isn't longer than the bytes -/
theorem oRaw_len (n : Nat) (st : OS) : (oRaw n st).1.length ≤ st.1.length ∧ (oRaw n st).2.1.length ≤ st.1.length := by
  unfold oRaw
  split
  · simp
  · simp
    exact Nat.min_le_right _ _
theorem oNum_len (lim : Nat) (st : OS) : (oNum lim st).2.1.length ≤ st.1.length := by
  unfold oNum
  split
  · simp
  · cases hd : decN st.1 with
    | none => simp
    | some x =>
      obtain ⟨n, r⟩ := x
      simp only
      split
      · rw [(decN_inv hd).1]; simp
      · simp
theorem oText_len (lim : Nat) (st : OS) : (oText lim st).1.length ≤ st.1.length ∧ (oText lim st).2.1.length ≤ st.1.length := by
  unfold oText obind
  have h1 := oNum_len lim st
  have h2 := oRaw_len (oNum lim st).1.toNat (oNum lim st).2
  exact ⟨Nat.le_trans h2.1 h1, Nat.le_trans h2.2 h1⟩
theorem obind_ent {α : Type} {op : OS → α × OS} {k : α → OS → Ent × OS} {n : Nat} (h1 : ∀ st, st.1.length ≤ n → (op st).2.1.length ≤ n) (h2 : ∀ a st, st.1.length ≤ n → (k a st).1.me.length ≤ n ∧ (k a st).1.pa.length ≤ n ∧ (k a st).1.bo.length ≤ n) :
    ∀ st, st.1.length ≤ n → (obind op k st).1.me.length ≤ n ∧ (obind op k st).1.pa.length ≤ n ∧ (obind op k st).1.bo.length ≤ n := fun st h => h2 _ _ (h1 st h)
theorem oEnt_len (st : OS) : (oEnt st).1.me.length ≤ st.1.length ∧ (oEnt st).1.pa.length ≤ st.1.length ∧ (oEnt st).1.bo.length ≤ st.1.length := by
  have hn : ∀ (n lim : Nat) (st : OS), st.1.length ≤ n → (oNum lim st).2.1.length ≤ n := fun n lim st h => Nat.le_trans (oNum_len lim st) h
  have ht : ∀ (n lim : Nat) (st : OS), st.1.length ≤ n → (oText lim st).2.1.length ≤ n := fun n lim st h => Nat.le_trans (oText_len lim st).2 h
  have hr : ∀ (n lim : Nat) (st : OS), st.1.length ≤ n → (oRaw lim st).2.1.length ≤ n := fun n lim st h => Nat.le_trans (oRaw_len lim st).2 h
  refine obind_ent (hn _ 4) (fun te => obind_ent (ht _ 24) (fun key => obind_ent (hn _ 3) (fun sta => obind_ent (hn _ _) (fun ep => obind_ent (hn _ _) (fun tk => obind_ent (hn _ 5) (fun pt => obind_ent (hr _ 32) (fun pr => obind_ent (hn _ _) (fun le => obind_ent (hn _ _) (fun ex => ?_))))))))) st (Nat.le_refl _)
  intro q hq
  unfold oTail
  split
  · have a1 := oText_len 8 q
    unfold obind oret
    have a2 := oText_len 60 (oText 8 q).2
    have a3 := oText_len 80 (oText 60 (oText 8 q).2).2
    exact ⟨by simp only; omega, by simp only; omega, by simp only; omega⟩
  · split
    · unfold obind oret; simp
    · unfold oret; simp

/-! ### opened -/
def openR (s : List UInt8) : En × Int := match openE s with
  | some e => (e.t, 0)
  | none => (Ent.zero.t, 3)
theorem eopen_tends (s : List UInt8) (hs : s.length ≤ 1000000) : Tends (fun F => M_entry_Open F s) (openR s) := by
  have hl := oEnt_len (s, false)
  have hc := open_cases s
  unfold M_entry_Open openR
  refine Tends.bind (m := fun F => M_pack_Open F s) (r := (s, false, ())) (.of fun F => rfl) ?_
  refine Tends.bind (m := fun F => M_entry_read F (st3 (s, false))) (oread_tends (s, false)) ?_
  rcases hc with ⟨e, h1, h2⟩ | ⟨h1, h2⟩ | ⟨e, r, h1, hr, h2⟩
  · rw [h1] at hl
    simp only at hl
    rw [h1, h2]
    simp only
    refine Tends.bind (r := ((), (), !mayB e, Ent.zero.t, e.t, ())) ?_ ?_
    · refine Tends.bind (m := fun F => M_pack_Opener_Done F (st3 ([], false))) (r := (true, st3 ([], false))) (.of fun F => odone_eq F _) ?_
      exact Tends.pos rfl (Tends.bind (may_tends e (by omega) (by omega) (by omega)) (.ret _))
    · cases mayB e
      · exact Tends.pos rfl (.ret _)
      · exact Tends.neg (by simp) (.ret _)
  · rw [h2]
    generalize oEnt (s, false) = x at h1
    obtain ⟨e, q, b⟩ := x
    simp only at h1
    subst h1
    simp only
    refine Tends.bind (r := ((), (), true, Ent.zero.t, e.t, ())) ?_ (Tends.pos rfl (.ret _))
    refine Tends.bind (m := fun F => M_pack_Opener_Done F (st3 (q, true))) (r := (false, st3 (q, true))) (.of fun F => odone_eq F _) ?_
    exact Tends.neg (by simp) (.ret _)
  · rw [h1, h2]
    simp only
    refine Tends.bind (r := ((), (), true, Ent.zero.t, e.t, ())) ?_ (Tends.pos rfl (.ret _))
    refine Tends.bind (m := fun F => M_pack_Opener_Done F (st3 (r, false))) (r := (false, st3 (r, false))) (.of fun F => by rw [odone_eq]; simp [hr]) ?_
    exact Tends.neg (by simp) (.ret _)
def ropenR (s : List UInt8) : En × Bool := match openE s with
  | some e => (e.t, true)
  | none => (Ent.zero.t, false)
theorem ropen_tends (s : List UInt8) (hs : s.length ≤ 1000000) : Tends (fun F => M_conciergeref14_Open F s) (ropenR s) := by
  have hc := ropen_cases s
  unfold M_conciergeref14_Open ropenR
  refine Tends.bind (m := fun F => M_conciergeref14_Read_entry F (st3 (s, false))) (rEread_tends (s, false) hs) ?_
  rcases hc with ⟨e, r, h1, h2⟩ | ⟨h1, h2⟩
  · rw [h1, h2]
    simp only
    refine Tends.bind (r := (s, (), (), !mayB e, Ent.zero.t, e.t, ())) (Tends.pos trivial (Tends.bind (rmay_tends e) (.ret _))) ?_
    by_cases hm : mayB e = true
    · rw [hm]
      refine Tends.bind (r := ((), (), !decide (bytesE e = s), Ent.zero.t, e.t, ())) (Tends.pos rfl (Tends.bind (rbytes_tends e hm) (.ret _))) ?_
      by_cases hb : bytesE e = s
      · rw [show (if true = true ∧ bytesE e = s then some e else none : Option Ent) = some e from if_pos ⟨rfl, hb⟩, decide_eq_true hb]
        exact Tends.neg (by simp) (.ret _)
      · rw [show (if true = true ∧ bytesE e = s then some e else none : Option Ent) = none from if_neg (fun h => hb h.2), decide_eq_false hb]
        exact Tends.pos rfl (.ret _)
    · rw [show (if mayB e = true ∧ bytesE e = s then some e else none : Option Ent) = none from if_neg (fun h => hm h.1), Bool.eq_false_iff.2 hm]
      refine Tends.bind (r := ((), (), true, Ent.zero.t, e.t, ())) (Tends.neg (by simp) (.ret _)) (Tends.pos rfl (.ret _))
  · rw [h2]
    generalize rEnt (s, false) = x at h1
    obtain ⟨e, q, b⟩ := x
    simp only at h1
    subst h1
    simp only
    refine Tends.bind (r := (s, (), (), true, Ent.zero.t, e.t, ())) (Tends.neg (by simp) (.ret _)) ?_
    exact Tends.bind (r := ((), (), true, Ent.zero.t, e.t, ())) (Tends.neg (by simp) (.ret _)) (Tends.pos rfl (.ret _))

end Go.Vm
