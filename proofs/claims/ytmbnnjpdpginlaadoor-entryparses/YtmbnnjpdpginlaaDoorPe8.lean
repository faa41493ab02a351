/- Records: the program's and the document's; the laws of entries. No condition. -/
import Derived.Test.YtmbnnjpdpginlaaDoorPe7
import Derived.Test.YtmbnnjpdpginlaaDoorFlaw14
namespace Go.Vm
open Go Go.Proofs
set_option linter.unusedVariables false
set_option linter.unusedSimpArgs false

def eqE (a b : En) : Bool := decide (a.1 = b.1) && (decide (a.2.1 = b.2.1) && (decide (a.2.2.1 = b.2.2.1) && (decide (a.2.2.2.1 = b.2.2.2.1) && (decide (a.2.2.2.2.1 = b.2.2.2.2.1) && (decide (a.2.2.2.2.2.1 = b.2.2.2.2.2.1) && (decide (a.2.2.2.2.2.2.1 = b.2.2.2.2.2.2.1) && (decide (a.2.2.2.2.2.2.2.1 = b.2.2.2.2.2.2.2.1) && (decide (a.2.2.2.2.2.2.2.2.1 = b.2.2.2.2.2.2.2.2.1) && (decide (a.2.2.2.2.2.2.2.2.2.1 = b.2.2.2.2.2.2.2.2.2.1) && (decide (a.2.2.2.2.2.2.2.2.2.2.1 = b.2.2.2.2.2.2.2.2.2.2.1) && (decide (a.2.2.2.2.2.2.2.2.2.2.2.1 = b.2.2.2.2.2.2.2.2.2.2.2.1) && (decide (a.2.2.2.2.2.2.2.2.2.2.2.2.1 = b.2.2.2.2.2.2.2.2.2.2.2.2.1) && (decide (a.2.2.2.2.2.2.2.2.2.2.2.2.2.1 = b.2.2.2.2.2.2.2.2.2.2.2.2.2.1) && true)))))))))))))
theorem eqE_eq (a b : Ent) : eqE a.t b.t = decide (a = b) := by
  rw [Bool.eq_iff_iff]
  unfold eqE
  simp only [Bool.and_eq_true, decide_eq_true_eq, and_true]
  constructor
  · rintro ⟨h1, h2, h3, h4, h5, h6, h7, h8, h9, h10, h11, h12, h13, h14⟩
    cases a; cases b
    simp only [Ent.t] at h1 h2 h3 h4 h5 h6 h7 h8 h9 h10 h11 h12 h13 h14
    subst h1 h2 h3 h4 h5 h6 h7 h8 h9 h10 h11 h12 h13 h14
    rfl
  · rintro rfl
    exact ⟨rfl, rfl, rfl, rfl, rfl, rfl, rfl, rfl, rfl, rfl, rfl, rfl, rfl, rfl⟩

/-! ### records made -/
theorem pnum_any (b : List UInt8) (hb : b.length ≤ 1000000000000) (n : Int) : ∃ st : List UInt8 × Bool × Unit, Tends (fun F => M_pack_Packer_Num F ((b, false, ()), n)) ((), st) ∧ (0 ≤ n → n ≤ 4611686018427387904 → st = (b ++ nI n, false, ())) := by
  by_cases h : 0 ≤ n ∧ n ≤ 4611686018427387904
  · exact ⟨_, pnI b hb n h.1 h.2, fun _ _ => rfl⟩
  · refine ⟨(b, true, ()), ?_, fun h1 h2 => absurd ⟨h1, h2⟩ h⟩
    refine .of fun F => ?_
    unfold M_pack_Packer_Num
    by_cases h0 : n < 0
    · simp [h0]
    · have h1 : 4611686018427387904 < n := by omega
      simp [h0, h1]
theorem erec_tends (k : Int) (e : Ent) (hs : e.small) : Tends (fun F => M_entry_Record F (k, e.t)) (if mayR k e = true then (bytesR k e, 0) else ([], 1)) := by
  obtain ⟨st, ht, hst⟩ := pnum_any ([] ++ nI 1) (by have := nI_len 1 (by omega) (by omega); simp; omega) k
  unfold M_entry_Record
  refine Tends.bind (m := fun F => M_pack_Packer_Num F (([], false, ()), 1)) (pnI [] (by simp) 1 (by omega) (by omega)) ?_
  refine Tends.bind (m := fun F => M_pack_Packer_Num F (([] ++ nI 1, false, ()), k)) ht ?_
  by_cases k1 : k = 1
  · have hst := hst (by omega) (by omega)
    subst hst
    refine Tends.bind (r := if mayB e = true then Sum.inl ((), ((), false, ()), nI 1 ++ nI k ++ bytesE e, ()) else Sum.inr ([], 1, ())) ?_ ?_
    · refine Tends.bind (r := ((), (), (), mayB e, (k, e.t), ((), false, ()), [] ++ nI 1 ++ nI k, e.t, ())) (Tends.pos (decide_eq_true k1) (Tends.bind (may_tends e (by have := hs.2.2.2.1; omega) (by have := hs.2.2.2.2.1; omega) (by have := hs.2.2.2.2.2; omega)) (.ret _))) ?_
      by_cases hm : mayB e = true
      · rw [if_pos hm]
        refine Tends.pos hm ?_
        refine Tends.bind (m := fun F => M_entry_lay F (([] ++ nI 1 ++ nI k, false, ()), e.t)) (lay_tends _ (by have := nI_len 1 (by omega) (by omega); have := nI_len k (by omega) (by omega); simp; omega) e hm) (.ret _)
      · rw [if_neg hm]
        refine Tends.neg hm ?_
        have k2 : ¬ (k = 2) := by omega
        refine Tends.bind (r := ((), (), false, ((), false, ()), [] ++ nI 1 ++ nI k, e.t, ())) (Tends.neg (fun h => k2 (of_decide_eq_true h)) (.ret _)) ?_
        exact Tends.bind (r := ((), (), false, ((), false, ()), [] ++ nI 1 ++ nI k, e.t, ())) (Tends.neg (by simp) (.ret _)) (Tends.neg (by simp) (.ret _))
    · have hR : mayR k e = mayB e := by unfold mayR; rw [if_pos k1]
      rw [hR]
      by_cases hm : mayB e = true
      · rw [if_pos hm, if_pos hm]
        refine Tends.congr (m := fun F => (M_pack_Packer_String F (nI 1 ++ nI k ++ bytesE e, false, ())).bind fun v12 => some (v12.1, (0 : Int))) ?_ (fun F => rfl)
        refine Tends.bind (m := fun F => M_pack_Packer_String F (nI 1 ++ nI k ++ bytesE e, false, ())) (r := (nI 1 ++ nI k ++ bytesE e, nI 1 ++ nI k ++ bytesE e, false, ())) (.of fun F => rfl) (.of fun F => ?_)
        unfold bytesR
        rw [if_pos k1, List.append_assoc]
      · rw [if_neg hm, if_neg hm]
        exact .ret _
  · refine Tends.bind (r := if mayR k e = true then Sum.inl ((), ((), false, ()), nI 1 ++ nI k ++ (nI e.te ++ txt e.key), ()) else Sum.inr ([], 1, ())) ?_ ?_
    · refine Tends.bind (r := ((), (), (), false, (k, e.t), ((), st.2.1, ()), st.1, e.t, ())) (Tends.neg (fun h => k1 (of_decide_eq_true h)) (.ret _)) (Tends.neg (by simp) ?_)
      by_cases k2 : k = 2
      · have hst := hst (by omega) (by omega)
        subst hst
        refine Tends.bind (r := ((), (), namedB e.te e.key, ((), false, ()), [] ++ nI 1 ++ nI k, e.t, ())) (Tends.pos (decide_eq_true k2) (Tends.bind (named_tends e) (.ret _))) ?_
        have hR : mayR k e = (namedB e.te e.key && decide (e = Ent.nm e.te e.key)) := by unfold mayR; rw [if_neg k1, decide_eq_true k2, Bool.true_and]
        refine Tends.bind (r := ((), (), mayR k e, ((), false, ()), [] ++ nI 1 ++ nI k, e.t, ())) (.of fun F => ?_) ?_
        · rw [hR]
          cases namedB e.te e.key
          · exact if_neg (by simp)
          · exact (if_pos rfl).trans (congrArg (fun z => some ((), (), z, ((), false, ()), [] ++ nI 1 ++ nI k, e.t, ())) (eqE_eq e (Ent.nm e.te e.key)))
        · by_cases hm : mayR k e = true
          · obtain ⟨_, hn, _⟩ := mayR_two hm k1
            obtain ⟨n1, n2, n3⟩ := namedB_parts hn
            have l1 := nI_len 1 (by omega) (by omega)
            have l2 := nI_len k (by omega) (by omega)
            have l3 := nI_len e.te (by omega) (by omega)
            rw [if_pos hm]
            refine Tends.pos hm ?_
            refine Tends.bind (m := fun F => M_pack_Packer_Num F (([] ++ nI 1 ++ nI k, false, ()), e.te)) (pnI _ (by simp; omega) e.te (by omega) (by omega)) ?_
            refine Tends.bind (m := fun F => M_pack_Packer_Text F (([] ++ nI 1 ++ nI k ++ nI e.te, false, ()), e.key)) (ptxt _ e.key (by simp; omega) (by omega)) (.of fun F => ?_)
            simp only [List.append_assoc, List.nil_append]
          · rw [if_neg hm]
            exact Tends.neg hm (.ret _)
      · have hR : mayR k e = false := by unfold mayR; rw [if_neg k1, decide_eq_false k2]; rfl
        rw [hR, if_neg (by simp)]
        refine Tends.bind (r := ((), (), false, ((), st.2.1, ()), st.1, e.t, ())) (Tends.neg (fun h => k2 (of_decide_eq_true h)) (.ret _)) ?_
        exact Tends.bind (r := ((), (), false, ((), st.2.1, ()), st.1, e.t, ())) (Tends.neg (by simp) (.ret _)) (Tends.neg (by simp) (.ret _))
    · by_cases hm : mayR k e = true
      · rw [if_pos hm, if_pos hm]
        refine Tends.congr (m := fun F => (M_pack_Packer_String F (nI 1 ++ nI k ++ (nI e.te ++ txt e.key), false, ())).bind fun v12 => some (v12.1, (0 : Int))) ?_ (fun F => rfl)
        refine Tends.bind (m := fun F => M_pack_Packer_String F (nI 1 ++ nI k ++ (nI e.te ++ txt e.key), false, ())) (r := (nI 1 ++ nI k ++ (nI e.te ++ txt e.key), nI 1 ++ nI k ++ (nI e.te ++ txt e.key), false, ())) (.of fun F => rfl) (.of fun F => ?_)
        unfold bytesR
        rw [if_neg k1, List.append_assoc]
      · rw [if_neg hm, if_neg hm]
        exact .ret _
theorem rmayR_tends (k : Int) (e : Ent) : Tends (fun F => M_conciergeref14_MayRecord F (k, e.t)) (mayR k e) := by
  unfold M_conciergeref14_MayRecord
  by_cases k1 : k = 1
  · have hR : mayR k e = mayB e := by unfold mayR; rw [if_pos k1]
    rw [hR]
    exact Tends.pos (decide_eq_true k1) (Tends.bind (rmay_tends e) (.ret _))
  · refine Tends.neg (fun h => k1 (of_decide_eq_true h)) ?_
    by_cases k2 : k = 2
    · have hR : mayR k e = (namedB e.te e.key && decide (e = Ent.nm e.te e.key)) := by unfold mayR; rw [if_neg k1, decide_eq_true k2, Bool.true_and]
      rw [hR]
      refine Tends.bind (r := ((), namedB e.te e.key, (k, e.t), ())) (Tends.pos (decide_eq_true k2) (Tends.bind (rnamed_tends e) (.ret _))) ?_
      refine Tends.bind (r := (namedB e.te e.key && decide (e = Ent.nm e.te e.key), ())) (.of fun F => ?_) (.ret _)
      cases namedB e.te e.key
      · exact if_neg (by simp)
      · exact (if_pos rfl).trans (congrArg (fun z => some (z, ())) (eqE_eq e (Ent.nm e.te e.key)))
    · have hR : mayR k e = false := by unfold mayR; rw [if_neg k1, decide_eq_false k2]; rfl
      rw [hR]
      refine Tends.bind (r := ((), false, (k, e.t), ())) (Tends.neg (fun h => k2 (of_decide_eq_true h)) (.ret _)) ?_
      exact Tends.bind (r := (false, ())) (Tends.neg (by simp) (.ret _)) (.ret _)
theorem mayR_k {k : Int} {e : Ent} (h : mayR k e = true) : 1 ≤ k ∧ k ≤ 2 := by
  by_cases k1 : k = 1
  · omega
  · have := (mayR_two h k1).1; omega
theorem rbytesR_tends (k : Int) (e : Ent) (hm : mayR k e = true) : Tends (fun F => M_conciergeref14_RecordBytes F (k, e.t)) (bytesR k e) := by
  have hk := mayR_k hm
  have l1 := nI_len 1 (by omega) (by omega)
  have l2 := nI_len k (by omega) (by omega)
  have hb := bytesR_len hm
  unfold M_conciergeref14_RecordBytes
  refine Tends.bind (rnI 1 (by omega) (by omega)) (Tends.bind (rnI k (by omega) (by omega)) (Tends.pos (by simp; omega) ?_))
  by_cases k1 : k = 1
  · have hR : mayB e = true := by unfold mayR at hm; rwa [if_pos k1] at hm
    have := bytesE_len hR
    refine Tends.pos (decide_eq_true k1) (Tends.bind (rbytes_tends e hR) (Tends.pos (by simp; omega) (.of fun F => ?_)))
    unfold bytesR
    rw [if_pos k1, List.append_assoc]
  · obtain ⟨_, hn, _⟩ := mayR_two hm k1
    obtain ⟨n1, n2, n3⟩ := namedB_parts hn
    have l3 := nI_len e.te (by omega) (by omega)
    have l4 := txtb_len e.key (by omega)
    refine Tends.neg (fun h => k1 (of_decide_eq_true h)) ?_
    refine Tends.bind (r := (nI 1 ++ nI k ++ nI e.te ++ txt e.key, ())) ?_ (.of fun F => ?_)
    · refine Tends.bind (m := fun F => M_conciergeref01_Num F e.te) (rnI e.te (by omega) (by omega)) (Tends.pos (by simp; omega) ?_)
      exact Tends.bind (m := fun F => M_conciergeref01_Text F e.key) (rtxt e.key (by omega)) (Tends.pos (by simp; omega) (.ret _))
    · unfold bytesR
      rw [if_neg k1]
      simp only [List.append_assoc]

/-! ### records read -/
abbrev Rc : Type := Int × En
def parsR (s : List UInt8) : Rc × Int := match parseR s with
  | some (k, e) => ((k, e.t), 0)
  | none => ((0, Ent.zero.t), 3)
def rparsR (s : List UInt8) : Rc × Bool := match parseR s with
  | some (k, e) => ((k, e.t), true)
  | none => ((0, Ent.zero.t), false)
theorem eparse_tends (s : List UInt8) (hs : s.length ≤ 1000000) : Tends (fun F => M_entry_Parse F s) (parsR s) := by
  obtain ⟨one, k, s1, s2, b1, b2, h1, h2, h3⟩ := parse_cases s
  have t1 := onum_tends (s, false) 1 (by omega)
  have t2 := onum_tends (s1, b1) 2 (by omega)
  have hl1 := oNum_len 1 (s, false)
  have hl2 := oNum_len 2 (s1, b1)
  rw [h1] at t1 hl1
  rw [h2] at t2 hl2
  simp only at hl1 hl2
  unfold M_entry_Parse
  refine Tends.bind (m := fun F => M_pack_Open F s) (r := (s, false, ())) (.of fun F => rfl) (Tends.bind t1 (Tends.bind t2 ?_))
  -- what is told, if it is none
  have bad : ∀ (b : Bool) (x : Rc) (q : OS), (b = false ∨ q.2 = true ∨ q.1 ≠ []) → parseR s = none → Tends (fun F => (if (!b) = false then (M_pack_Opener_Done F (q.1, q.2, ())).bind fun (v9 : Bool × List UInt8 × Bool × Unit) => some ((), (), !v9.1, (0, Ent.zero.t), x, ()) else some ((), (), true, (0, Ent.zero.t), x, ())).bind
      fun (v10 : Unit × Unit × Bool × Rc × Rc × Unit) => if v10.2.2.1 = true then some ((0, Ent.zero.t), 3) else some (v10.2.2.2.2.1, (0 : Int))) (parsR s) := by
    intro b x q hq hp
    unfold parsR
    rw [hp]
    refine Tends.bind (r := ((), (), true, (0, Ent.zero.t), x, ())) ?_ (Tends.pos rfl (.ret _))
    cases b
    · exact Tends.neg (by simp) (.ret _)
    · refine Tends.pos rfl (Tends.bind (m := fun F => M_pack_Opener_Done F (st3 q)) (r := (false, st3 q)) (.of fun F => ?_) (.ret _))
      rw [odone_eq]
      rcases hq with hq | hq | hq
      · cases hq
      · rw [hq]; rfl
      · rw [decide_eq_false hq]; simp
  have good : ∀ (b : Bool) (e : Ent), parseR s = (if b = true then some (k, e) else none) → Tends (fun F => (if (!b) = false then (M_pack_Opener_Done F (([] : List UInt8), false, ())).bind fun (v9 : Bool × List UInt8 × Bool × Unit) => some ((), (), !v9.1, (0, Ent.zero.t), (k, e.t), ()) else some ((), (), true, (0, Ent.zero.t), (k, e.t), ())).bind
      fun (v10 : Unit × Unit × Bool × Rc × Rc × Unit) => if v10.2.2.1 = true then some ((0, Ent.zero.t), 3) else some (v10.2.2.2.2.1, (0 : Int))) (parsR s) := by
    intro b e hp
    unfold parsR
    rw [hp]
    cases b
    · exact Tends.bind (r := ((), (), true, (0, Ent.zero.t), (k, e.t), ())) (Tends.neg (by simp) (.ret _)) (Tends.pos rfl (.ret _))
    · exact Tends.bind (r := ((), (), false, (0, Ent.zero.t), (k, e.t), ())) (Tends.pos rfl (Tends.bind (m := fun F => M_pack_Opener_Done F (st3 ([], false))) (r := (true, st3 ([], false))) (.of fun F => odone_eq F _) (.ret _))) (Tends.neg (by simp) (.ret _))
  by_cases k1 : k = 1
  · have hrec : oRec2 k (s2, b2) = oEnt (s2, b2) := by unfold oRec2; rw [if_pos k1]
    have hR : ∀ e, mayR k e = mayB e := fun e => by unfold mayR; rw [if_pos k1]
    have hb2 : b2 = true → (oEnt (s2, b2)).2.2 = true := fun h => by subst h; exact snd_oEnt.2 s2
    rw [hrec] at h3
    have hl := oEnt_len (s2, b2)
    have tr := oread_tends (s2, b2)
    obtain ⟨⟨e, q⟩, hx⟩ : ∃ x, x = oEnt (s2, b2) := ⟨_, rfl⟩
    rw [← hx] at h3 hb2 hl tr
    simp only at h3 hb2 hl tr
    refine Tends.bind (r := ((), (), decide (one = 1) && mayB e, (), (0, Ent.zero.t), (k, e.t), st3 q, ())) (Tends.pos (decide_eq_true k1) (Tends.bind tr ?_)) ?_
    · by_cases o1 : one = 1
      · rw [decide_eq_true o1, Bool.true_and]
        exact Tends.pos rfl (Tends.bind (may_tends e (by omega) (by omega) (by omega)) (.ret _))
      · rw [decide_eq_false o1, Bool.false_and]
        exact Tends.neg (by simp) (.ret _)
    · rcases h3 with ⟨e', h4, h5⟩ | ⟨h4, h5⟩ | ⟨e', r, h4, hr, h5⟩ | ⟨h4, h5⟩
      · cases h4
        refine good _ e (h5.trans ?_)
        rw [hR]
        by_cases o1 : one = 1 <;> simp [o1]
      · exact bad _ (k, e.t) q (.inr (.inl h4)) h5
      · cases h4
        exact bad _ (k, e.t) (r, false) (.inr (.inr hr)) h5
      · exact bad _ (k, e.t) q (.inr (.inl (hb2 h4))) h5
  · refine Tends.bind (r := ((), (), decide (k = 2) && (decide (one = 1) && namedB (if k = 2 then (oNum 4 (s2, b2)).1 else 0) (if k = 2 then (oText 24 (oNum 4 (s2, b2)).2).1 else [])), (), (0, Ent.zero.t), (k, (Ent.nm (if k = 2 then (oNum 4 (s2, b2)).1 else 0) (if k = 2 then (oText 24 (oNum 4 (s2, b2)).2).1 else [])).t), st3 (if k = 2 then (oText 24 (oNum 4 (s2, b2)).2).2 else (s2, b2)), ())) (Tends.neg (fun h => k1 (of_decide_eq_true h)) ?_) ?_
    · by_cases k2 : k = 2
      · rw [decide_eq_true k2, Bool.true_and, if_pos k2, if_pos k2, if_pos k2]
        refine Tends.pos rfl (Tends.bind (onum_tends (s2, b2) 4 (by omega)) (Tends.bind (otext_tends (oNum 4 (s2, b2)).2 24 (by omega)) ?_))
        by_cases o1 : one = 1
        · rw [decide_eq_true o1, Bool.true_and]
          refine Tends.pos rfl (Tends.bind (m := fun F => M_entry_named F (Ent.nm (oNum 4 (s2, b2)).1 (oText 24 (oNum 4 (s2, b2)).2).1).t) (named_tends (Ent.nm (oNum 4 (s2, b2)).1 (oText 24 (oNum 4 (s2, b2)).2).1)) (.ret _))
        · rw [decide_eq_false o1, Bool.false_and]
          exact Tends.neg (by simp) (.ret _)
      · rw [decide_eq_false k2, Bool.false_and, if_neg k2, if_neg k2, if_neg k2]
        exact Tends.neg (by simp) (.ret _)
    · by_cases k2 : k = 2
      · rw [if_pos k2, if_pos k2, if_pos k2, decide_eq_true k2, Bool.true_and]
        have hrec : oRec2 k (s2, b2) = (Ent.nm (oNum 4 (s2, b2)).1 (oText 24 (oNum 4 (s2, b2)).2).1, (oText 24 (oNum 4 (s2, b2)).2).2) := by
          unfold oRec2
          rw [if_neg k1]
          rfl
        rw [hrec] at h3
        have hb2 : b2 = true → (oText 24 (oNum 4 (s2, b2)).2).2.2 = true := fun h => by
          subst h
          have := (snd_oRec2 k).2 s2
          rw [hrec] at this
          exact this
        generalize (oNum 4 (s2, b2)).1 = te at h3 ⊢
        generalize oText 24 (oNum 4 (s2, b2)).2 = x at h3 hb2 ⊢
        obtain ⟨key, q⟩ := x
        simp only at h3 hb2 ⊢
        have hR : mayR k (Ent.nm te key) = namedB te key := by
          unfold mayR
          rw [if_neg k1, decide_eq_true k2, Bool.true_and]
          simp [Ent.nm]
        rcases h3 with ⟨e', h4, h5⟩ | ⟨h4, h5⟩ | ⟨e', r, h4, hr, h5⟩ | ⟨h4, h5⟩
        · cases h4
          refine good _ (Ent.nm te key) (h5.trans ?_)
          rw [hR]
          by_cases o1 : one = 1 <;> simp [o1]
        · exact bad _ _ q (.inr (.inl h4)) h5
        · cases h4
          exact bad _ _ (r, false) (.inr (.inr hr)) h5
        · exact bad _ _ q (.inr (.inl (hb2 h4))) h5
      · rw [if_neg k2, if_neg k2, if_neg k2, decide_eq_false k2, Bool.false_and]
        have hn : parseR s = none := by
          have hRn : ∀ e, mayR k e = false := fun e => by unfold mayR; rw [if_neg k1, decide_eq_false k2]; rfl
          rcases h3 with ⟨e', h4, h5⟩ | ⟨h4, h5⟩ | ⟨e', r, h4, hr, h5⟩ | ⟨h4, h5⟩
          · rw [h5, if_neg (fun h => by rw [hRn] at h; cases h.2)]
          · exact h5
          · exact h5
          · exact h5
        exact bad false _ (s2, b2) (.inl rfl) hn
theorem rparse_tends (s : List UInt8) (hs : s.length ≤ 1000000) : Tends (fun F => M_conciergeref14_Parse F s) (rparsR s) := by
  have hc := rparse_cases s
  obtain ⟨⟨one, s1⟩, h1⟩ : ∃ x, x = rNum (s, false) := ⟨_, rfl⟩
  obtain ⟨⟨k, s2⟩, h2⟩ : ∃ x, x = rNum s1 := ⟨_, rfl⟩
  obtain ⟨⟨e, s3⟩, h3⟩ : ∃ x, x = rRec2 k s2 := ⟨_, rfl⟩
  have l1 := rNum_len (s, false)
  rw [← h1] at l1
  have l2 := rNum_len s1
  rw [← h2] at l2
  simp only at l1 l2
  have t1 := rnumr_tends (s, false) hs
  have t2 := rnumr_tends s1 (by omega)
  rw [← h1] at t1
  rw [← h2] at t2
  have hrec : rRec (s, false) = ((one, k, e), s3) := by
    unfold rRec obind oret
    rw [← h1]; simp only
    rw [← h2]; simp only
    rw [← h3]
  rw [hrec] at hc
  unfold M_conciergeref14_Parse
  refine Tends.bind t1 (Tends.bind t2 ?_)
  refine Tends.bind (r := (s, (), (), one, (), (0, Ent.zero.t), st3 s3, (k, e.t), ())) ?_ ?_
  · unfold rRec2 at h3
    by_cases k1 : k = 1
    · rw [if_pos k1] at h3
      have tr := rEread_tends s2 (by omega)
      rw [← h3] at tr
      exact Tends.pos (decide_eq_true k1) (Tends.bind tr (.ret _))
    · rw [if_neg k1] at h3
      obtain ⟨⟨te, q1⟩, g1⟩ : ∃ x, x = rNum s2 := ⟨_, rfl⟩
      obtain ⟨⟨key, q2⟩, g2⟩ : ∃ x, x = rText q1 := ⟨_, rfl⟩
      have l3 := rNum_len s2
      rw [← g1] at l3
      simp only at l3
      have u1 := rnumr_tends s2 (by omega)
      have u2 := rtextr_tends q1 (by omega)
      rw [← g1] at u1
      rw [← g2] at u2
      unfold obind oret at h3
      rw [← g1] at h3
      simp only at h3
      rw [← g2] at h3
      simp only at h3
      cases h3
      exact Tends.neg (fun h => k1 (of_decide_eq_true h)) (Tends.bind u1 (Tends.bind u2 (.ret _)))
  unfold rparsR
  rcases hc with ⟨one', k', e', r, h4, h5⟩ | ⟨h4, h5⟩
  · cases h4
    rw [h5]
    refine Tends.bind (r := (s, (), (), !decide (one = 1), (0, Ent.zero.t), (k, e.t), ())) (Tends.pos rfl (.ret _)) ?_
    by_cases o1 : one = 1
    · rw [decide_eq_true o1]
      refine Tends.bind (r := (s, (), (), !mayR k e, (0, Ent.zero.t), (k, e.t), ())) (Tends.pos rfl (Tends.bind (rmayR_tends k e) (.ret _))) ?_
      by_cases hm : mayR k e = true
      · rw [hm]
        refine Tends.bind (r := ((), (), !decide (bytesR k e = s), (0, Ent.zero.t), (k, e.t), ())) (Tends.pos rfl (Tends.bind (rbytesR_tends k e hm) (.ret _))) ?_
        by_cases hb : bytesR k e = s
        · rw [show (if one = 1 ∧ true = true ∧ bytesR k e = s then some (k, e) else none : Option (Int × Ent)) = some (k, e) from if_pos ⟨o1, rfl, hb⟩, decide_eq_true hb]
          exact Tends.neg (by simp) (.ret _)
        · rw [show (if one = 1 ∧ true = true ∧ bytesR k e = s then some (k, e) else none : Option (Int × Ent)) = none from if_neg (fun h => hb h.2.2), decide_eq_false hb]
          exact Tends.pos rfl (.ret _)
      · rw [show (if one = 1 ∧ mayR k e = true ∧ bytesR k e = s then some (k, e) else none : Option (Int × Ent)) = none from if_neg (fun h => hm h.2.1), Bool.eq_false_iff.2 hm]
        exact Tends.bind (r := ((), (), true, (0, Ent.zero.t), (k, e.t), ())) (Tends.neg (by simp) (.ret _)) (Tends.pos rfl (.ret _))
    · rw [show (if one = 1 ∧ mayR k e = true ∧ bytesR k e = s then some (k, e) else none : Option (Int × Ent)) = none from if_neg (fun h => o1 h.1), decide_eq_false o1]
      refine Tends.bind (r := (s, (), (), true, (0, Ent.zero.t), (k, e.t), ())) (Tends.neg (by simp) (.ret _)) ?_
      exact Tends.bind (r := ((), (), true, (0, Ent.zero.t), (k, e.t), ())) (Tends.neg (by simp) (.ret _)) (Tends.pos rfl (.ret _))
  · rw [h5]
    simp only at h4
    refine Tends.bind (r := (s, (), (), true, (0, Ent.zero.t), (k, e.t), ())) (Tends.neg (by rw [show (st3 s3).2.1 = true from h4]; simp) (.ret _)) ?_
    refine Tends.bind (r := (s, (), (), true, (0, Ent.zero.t), (k, e.t), ())) (Tends.neg (by simp) (.ret _)) ?_
    exact Tends.bind (r := ((), (), true, (0, Ent.zero.t), (k, e.t), ())) (Tends.neg (by simp) (.ret _)) (Tends.pos rfl (.ret _))

end Go.Vm
