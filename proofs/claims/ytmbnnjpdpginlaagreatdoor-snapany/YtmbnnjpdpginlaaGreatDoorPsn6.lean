/- The document's snapshots: written, read, and the same; the laws SnapAny and SnapBack, plainly. No condition. -/
import Derived.Test.YtmbnnjpdpginlaaGreatDoorPsn3
import Derived.Test.YtmbnnjpdpginlaaGreatDoorPfr2
namespace Go.Vm
open Go Go.Proofs
set_option linter.unusedVariables false
set_option linter.unusedSimpArgs false

/-! ### the same -/
def eqS (a b : En) : Bool := decide (a.1 = b.1) && (decide (a.2.1 = b.2.1) && (decide (a.2.2.1 = b.2.2.1) && (decide (a.2.2.2.1 = b.2.2.2.1) && (decide (a.2.2.2.2.1 = b.2.2.2.2.1) && (decide (a.2.2.2.2.2.1 = b.2.2.2.2.2.1) && (decide (a.2.2.2.2.2.2.1 = b.2.2.2.2.2.2.1) && (decide (a.2.2.2.2.2.2.2.1 = b.2.2.2.2.2.2.2.1) && (decide (a.2.2.2.2.2.2.2.2.1 = b.2.2.2.2.2.2.2.2.1) && (decide (a.2.2.2.2.2.2.2.2.2.1 = b.2.2.2.2.2.2.2.2.2.1) && (decide (a.2.2.2.2.2.2.2.2.2.2.1 = b.2.2.2.2.2.2.2.2.2.2.1) && (decide (a.2.2.2.2.2.2.2.2.2.2.2.1 = b.2.2.2.2.2.2.2.2.2.2.2.1) && (decide (a.2.2.2.2.2.2.2.2.2.2.2.2.1 = b.2.2.2.2.2.2.2.2.2.2.2.2.1) && (decide (a.2.2.2.2.2.2.2.2.2.2.2.2.2.1 = b.2.2.2.2.2.2.2.2.2.2.2.2.2.1) && true)))))))))))))
theorem eqS_self (a : En) : eqS a a = true := by
  unfold eqS
  simp
theorem same_loop (l : List En) (hl : l.length ≤ 1000000000000) : ∀ (m j : Nat), j + m = l.length → TendsL M_conciergeref15_Same_l0 (l, l, (j : Int), ()) (.inl ())
  | 0, j, hj => by
    refine TendsL.fin (.of fun F => ?_)
    unfold M_conciergeref15_Same_l0
    rw [if_neg (by simp; omega)]
  | m + 1, j, hj => by
    have hlt : j < l.length := by omega
    have hi : idx l (j : Int) = some l[j] := idxN l j _ rfl hlt
    refine TendsL.step ?_ (same_loop l hl m (j + 1) (by omega))
    unfold M_conciergeref15_Same_l0
    refine Tends.pos (by simp; omega) (Tends.bind (r := (l, l, (j : Int), !eqS l[j] l[j], ())) (Tends.bind (.const hi) (Tends.bind (.const hi) (.ret _))) ?_)
    rw [eqS_self]
    refine Tends.neg (by simp) (.of fun F => ?_)
    simp only [next_nat j (by omega)]
theorem same_tends (l : List En) (hl : l.length ≤ 1000000000000) : Tends (fun F => M_conciergeref15_Same F (l, l)) true := by
  unfold M_conciergeref15_Same
  refine Tends.neg (by simp) (Tends.bind (same_loop l hl l.length 0 (by omega)).run (.of fun F => rfl))

/-! ### written -/
theorem rswrite_loop (l : List Ent) (hl : l.length ≤ 200) (hm : ∀ e ∈ l, mayB e = true) : ∀ (m k : Nat) (acc : List UInt8), k + m = l.length → acc.length + 243 * m ≤ 1000000 →
    TendsL M_conciergeref19_Write_l0 (l.map Ent.t, acc, (k : Int), ()) (acc ++ (l.drop k).flatMap (fun e => frm (bytesE e)), ())
  | 0, k, acc, hk, ha => by
    refine TendsL.fin (.of fun F => ?_)
    unfold M_conciergeref19_Write_l0
    rw [if_neg (by simp; omega), List.drop_of_length_le (by omega)]
    simp
  | m + 1, k, acc, hk, ha => by
    have hlt : k < l.length := by omega
    have hd : l.drop k = l[k] :: l.drop (k + 1) := List.drop_eq_getElem_cons hlt
    obtain ⟨e, he⟩ : ∃ e, e = l[k] := ⟨_, rfl⟩
    have hi : idx (l.map Ent.t) (k : Int) = some e.t := by rw [idxT l k _ rfl hlt, he]
    have hmay : mayB e = true := hm e (by rw [he]; exact List.getElem_mem hlt)
    have hb := bytesE_len hmay
    have hf := frm_len (bytesE e)
    have ih := rswrite_loop l hl hm m (k + 1) (acc ++ frm (bytesE e)) (by omega) (by rw [List.length_append]; omega)
    rw [hd, ← he, List.flatMap_cons, ← List.append_assoc]
    refine TendsL.step ?_ ih
    unfold M_conciergeref19_Write_l0
    refine Tends.pos (by simp; omega) (Tends.bind (.const hi) (Tends.bind (rbytes_tends e hmay) (Tends.bind (rmake_tends (bytesE e) (by omega)) (Tends.pos (by rw [decide_eq_true_eq]; show acc.length + (frm (bytesE e)).length ≤ _; omega) (.of fun F => ?_)))))
    simp only [next_nat k (by omega)]
theorem rswrite_tends (l : List Ent) (top : Int) (hm : mayL l top = true) : Tends (fun F => M_conciergeref19_Write F (l.map Ent.t, top)) (snapW l top) := by
  obtain ⟨⟨h0, h1, h2⟩, _, hall⟩ := mayL_parts hm
  have l1 := nI_len top (by omega) (by omega)
  have l2 := nI_len (l.length : Int) (by omega) (by omega)
  have lh := headS_len top l.length h0 h1 h2
  have lf := frm_len (headS top l.length)
  unfold M_conciergeref19_Write
  refine Tends.bind (rnI top h0 (by omega)) (Tends.pos (by simp; omega) ?_)
  simp only [List.length_map]
  refine Tends.bind (rnI (l.length : Int) (by omega) (by omega)) (Tends.pos (by simp; omega) ?_)
  refine Tends.bind (m := fun F => M_conciergeref10_Make F (headS top l.length)) (rmake_tends (headS top l.length) (by omega)) ?_
  have hw := rswrite_loop l h2 hall l.length 0 (frm (headS top l.length)) (by omega) (by omega)
  rw [List.drop_zero] at hw
  exact Tends.bind hw.run (.ret _)

/-! ### read -/
def rrRes (top : Int) (acc : List Ent) : Option (List Ent) → RdR
  | none => .inr ((), 0, 3, [], ())
  | some l => .inl (top, (), (acc ++ l).map Ent.t, ())
theorem rsread_loop (t : List (List UInt8)) (ht : t.length ≤ 1000000) (hq : ∀ x ∈ t, x.length ≤ 1000000) (top : Int) : ∀ (m k : Nat) (acc : List Ent), k + m = t.length → acc.length + m ≤ 2000000 →
    TendsL M_conciergeref19_Read_l0 (t, top, (), (k : Int), acc.map Ent.t, ()) (rrRes top acc (openAll (t.drop k)))
  | 0, k, acc, hk, ha => by
    refine TendsL.fin (.of fun F => ?_)
    unfold M_conciergeref19_Read_l0
    rw [if_neg (by simp; omega), List.drop_of_length_le (by omega)]
    simp [rrRes, openAll]
  | m + 1, k, acc, hk, ha => by
    have hlt : k < t.length := by omega
    have hd : t.drop k = t[k] :: t.drop (k + 1) := List.drop_eq_getElem_cons hlt
    have hi : idx t (k : Int) = some t[k] := idxN t k _ rfl hlt
    have ho := ropen_tends t[k] (hq _ (List.getElem_mem hlt))
    rw [hd]
    unfold ropenR at ho
    cases he : openE t[k] with
    | none =>
      rw [he] at ho
      refine TendsL.fin ?_
      have : openAll (t[k] :: t.drop (k + 1)) = none := by rw [openAll, he]; rfl
      rw [this]
      unfold M_conciergeref19_Read_l0
      exact Tends.pos (by simp; omega) (Tends.bind (Tends.bind (.const hi) (Tends.bind ho (.ret _))) (Tends.pos rfl (.ret _)))
    | some e =>
      rw [he] at ho
      have hr : rrRes top acc (openAll (t[k] :: t.drop (k + 1))) = rrRes top (acc ++ [e]) (openAll (t.drop (k + 1))) := by
        rw [openAll, he]
        cases openAll (t.drop (k + 1)) with
        | none => rfl
        | some l => simp [rrRes]
      rw [hr]
      refine TendsL.step ?_ (rsread_loop t ht hq top m (k + 1) (acc ++ [e]) (by omega) (by simp; omega))
      unfold M_conciergeref19_Read_l0
      refine Tends.pos (by simp; omega) (Tends.bind (Tends.bind (.const hi) (Tends.bind ho (.ret _))) (Tends.neg (by simp) (Tends.pos (by simp; omega) (.of fun F => ?_))))
      simp only [next_nat k (by omega), List.map_append, List.map_cons, List.map_nil]
theorem rsread_tends (s : List UInt8) (hs : s.length ≤ 1000000) : Tends (fun F => M_conciergeref19_Read F s) (tt (snapR s)) := by
  unfold M_conciergeref19_Read snapR
  by_cases h0 : s = []
  · rw [if_pos h0]
    exact Tends.pos (decide_eq_true h0) (.ret _)
  rw [if_neg h0]
  refine Tends.neg (fun h => h0 (of_decide_eq_true h)) (Tends.bind (rsplit_tends s hs) ?_)
  by_cases h1 : (splL s).2.2 ≠ 0
  · rw [if_pos h1]
    exact Tends.pos (by simpa using h1) (.ret _)
  rw [if_neg h1]
  refine Tends.neg (by simpa using h1) ?_
  have h1' : (splL s).2.2 = 0 := by
    by_cases e : (splL s).2.2 = 0
    · exact e
    · exact absurd e h1
  have hne := splL_ne h0 h1'
  have hpt := splG_parts s.length s
  change (splL s).1.length ≤ _ ∧ ∀ x ∈ (splL s).1, _ at hpt
  generalize (splL s).1 = L at hne hpt ⊢
  cases L with
  | nil => exact absurd rfl hne
  | cons h t =>
  simp only
  obtain ⟨pl, pe⟩ := hpt
  rw [List.length_cons] at pl
  have hh := pe h (List.mem_cons_self ..)
  have hi : idx (h :: t) 0 = some h := rfl
  refine Tends.bind (.const hi) ?_
  by_cases h3 : h.length < 3
  · have : hdO h t.length = none := by unfold hdO; rw [if_pos (.inl h3)]
    unfold tailR
    rw [this]
    exact Tends.pos (by simp; omega) (.ret _)
  refine Tends.neg (by simp; omega) ?_
  obtain ⟨f, hf⟩ : ∃ f, f = frst (h.drop 3) := ⟨_, rfl⟩
  have f62 : f.1 ≤ 4611686018427387904 := by
    rw [hf]
    unfold frst
    cases decN (h.drop 3) with
    | none => simp
    | some x => obtain ⟨n, r⟩ := x; simp only; split <;> simp; assumption
  have hfr := rfirst_tends (h.drop 3) (by rw [List.length_drop]; omega)
  rw [← hf] at hfr
  refine Tends.bind (r := (h :: t, (f.1 : Int), (f.2 : Int), ())) (Tends.bind (.const hi) (Tends.bind (.const (subE h 3 (by omega))) (Tends.bind hfr (.ret _)))) ?_
  obtain ⟨b, hb⟩ : ∃ b, b = decide (f.2 = 0 ∨ h ≠ cs1 ++ numL f.1 ++ numL t.length) := ⟨_, rfl⟩
  have hlen : IntKind.i64.wrap (((h :: t).length : Int) - 1) = (t.length : Int) := by rw [wrap64] <;> simp <;> omega
  have n1 := nI_len (f.1 : Int) (by omega) (by omega)
  have n2 := nI_len (t.length : Int) (by omega) (by omega)
  unfold nI at n1 n2
  rw [Int.toNat_natCast] at n1 n2
  refine Tends.bind (r := (h :: t, (f.1 : Int), b, ())) ?_ ?_
  · by_cases hz : f.2 = 0
    · refine Tends.neg (by simp [hz]) ?_
      rw [hb, decide_eq_true (.inl hz)]
      exact .ret _
    · refine Tends.pos (by simp [hz]) (Tends.bind (.const hi) (Tends.bind (rnum_tends f.1 f62) (Tends.pos (by simp; omega) ?_)))
      simp only [hlen]
      refine Tends.bind (rnum_tends t.length (by omega)) (Tends.pos (by simp; omega) (.of fun F => ?_))
      have : b = !decide (h = cs1 ++ numL f.1 ++ numL t.length) := by
        rw [hb]
        simp [hz]
      rw [this]
      rfl
  have hO : hdO h t.length = if b = true then none else some (f.1 : Int) := by
    unfold hdO
    rw [← hf, hb]
    by_cases hq : f.2 = 0 ∨ h ≠ cs1 ++ numL f.1 ++ numL t.length
    · rw [if_pos (.inr hq), if_pos (decide_eq_true hq)]
    · rw [if_neg (fun q => q.elim h3 hq), if_neg (by simpa using hq)]
  unfold tailR
  rw [hO]
  cases b
  · refine Tends.neg (by simp) ?_
    simp only [Bool.false_eq_true, if_false]
    have hl := rsread_loop (h :: t) (by rw [List.length_cons]; omega) (fun x hx => Nat.le_trans (pe x hx) hs) (f.1 : Int) t.length 1 [] (by rw [List.length_cons]; omega) (by simp; omega)
    rw [List.drop_succ_cons, List.drop_zero] at hl
    refine Tends.bind hl.run ?_
    cases ho : openAll t with
    | none => exact .of fun F => rfl
    | some l =>
      have hll := openAll_len ho
      refine Tends.congr (m := fun F => (M_conciergeref19_May F (l.map Ent.t, (f.1 : Int))).bind fun v15 => if (!v15) = true then some ([], 0, 3) else some (l.map Ent.t, (f.1 : Int), (0 : Int))) ?_ (fun F => rfl)
      refine Tends.bind (rsmay_tends l (by omega) _) ?_
      simp only
      cases mayL l (f.1 : Int)
      · exact Tends.pos rfl (.ret _)
      · exact Tends.neg (by simp) (.ret _)
  · exact Tends.pos rfl (.ret _)

theorem pure_conciergelaw19_SnapAny (s : List UInt8) : ∃ F, M_conciergelaw19_SnapAny F s = some true := by
  refine Tends.ex ?_
  unfold M_conciergelaw19_SnapAny
  refine Tends.bind awake19 (Tends.neg (by simp) ?_)
  by_cases h : 1500 < (s.length : Int)
  · exact Tends.pos (decide_eq_true h) (.ret _)
  refine Tends.neg (by simpa using h) (Tends.bind (sread_tends s (by omega)) (Tends.bind (rsread_tends s (by omega)) ?_))
  have hlen : (snapR s).1.length ≤ 1000000 := by
    unfold snapR
    split
    · simp
    · split
      · simp
      · split
        · simp
        · rename_i hd tl hq
          unfold tailR
          split
          · simp
          · split
            · simp
            · split
              · rename_i hm
                have := (mayL_parts hm).1.2.2
                simp only
                omega
              · simp
  generalize snapR s = y at hlen
  unfold tt
  refine Tends.bind (r := (y.1.map Ent.t, y.1.map Ent.t, true, ())) (.of fun F => by simp) ?_
  refine Tends.bind (r := (true, ())) (Tends.pos rfl (Tends.bind (same_tends (y.1.map Ent.t) (by simp; omega)) (.ret _))) (.ret _)

/-! ### back -/
theorem need_eq (F : Nat) (n : Nat) (h : n ≤ 200) : M_snap_Need F (n : Int) = some ((20 + 243 * n : Nat) : Int) := by
  unfold M_snap_Need
  have h1 : ¬ ((n : Int) < 0) := by omega
  have h2 : ¬ (200 < (n : Int)) := by omega
  simp only [h1, h2, if_false]
  have e1 : IntKind.i64.wrap (243 * (n : Int)) = 243 * (n : Int) := by rw [wrap64] <;> omega
  rw [e1, wrap64 _ (by omega) (by omega)]
  congr 1
abbrev EL : Type := List (List En × Unit)
theorem back_step (L : EL) (top : Int) (k : Nat) (hk : k < L.length) (hL : L.length ≤ 100) (m : List Ent) (hm : L[k] = (m.map Ent.t, ())) (hl : m.length ≤ 1000) (hs : Smalls m) :
    Tends (fun F => M_conciergelaw19_SnapBack_l0 F (top, L, (L.length : Int), (k : Int), ())) (.inl (top, L, (L.length : Int), ((k + 1 : Nat) : Int), ())) := by
  have hi : idx L (k : Int) = some (m.map Ent.t, ()) := by rw [idxN L k _ rfl hk, hm]
  unfold M_conciergelaw19_SnapBack_l0
  refine Tends.pos (by simp; omega) ?_
  refine Tends.bind (r := .inl (top, L, (L.length : Int), (k : Int), ())) ?_ (.of fun F => ?_)
  · refine Tends.bind (.const hi) (Tends.bind (swrite_tends m (by omega) hs top) (Tends.bind (rsmay_tends m (by omega) top) ?_))
    cases hmay : mayL m top
    · refine Tends.pos rfl (Tends.bind (r := (top, L, (L.length : Int), (k : Int), false, ())) (.of fun F => rfl) (Tends.neg (by simp) (.ret _)))
    · rw [if_pos rfl]
      have hlen := snapW_len hmay
      obtain ⟨⟨g0, g1, g2⟩, _, hall⟩ := mayL_parts hmay
      have hr := sread_tends (snapW m top) (by omega)
      rw [snapR_snapW hmay] at hr
      refine Tends.neg (by simp) (Tends.bind hr ?_)
      unfold tt
      simp only
      refine Tends.bind (r := (top, m.map Ent.t, snapW m top, m.map Ent.t, top, 0, L, (L.length : Int), (k : Int), false, ())) ?_ ?_
      · refine Tends.pos rfl (Tends.bind (rswrite_tends m top hmay) (.of fun F => ?_))
        simp only [decide_true, Bool.not_true]
      refine Tends.bind (r := (top, m.map Ent.t, m.map Ent.t, top, 0, L, (L.length : Int), (k : Int), false, ())) ?_ ?_
      · refine Tends.pos rfl (.of fun F => ?_)
        simp only [List.length_map, need_eq F m.length g2, Option.bind_some]
        have : decide ((((20 + 243 * m.length : Nat) : Int)) < ((snapW m top).length : Int)) = false := decide_eq_false (by omega)
        rw [this]
      refine Tends.bind (r := (top, m.map Ent.t, m.map Ent.t, top, L, (L.length : Int), (k : Int), false, ())) (.of fun F => rfl) ?_
      refine Tends.bind (r := (top, m.map Ent.t, m.map Ent.t, L, (L.length : Int), (k : Int), false, ())) (.of fun F => ?_) ?_
      · simp
      refine Tends.bind (r := (top, L, (L.length : Int), (k : Int), false, ())) (Tends.pos rfl (Tends.bind (same_tends (m.map Ent.t) (by simp; omega)) (.ret _))) ?_
      exact Tends.neg (by simp) (.ret _)
  · show some _ = some _
    simp only [next_nat k (by omega)]
theorem pure_conciergelaw19_SnapBack (l : List En) (top : Int) : ∃ F, M_conciergelaw19_SnapBack F (l, top) = some true := by
  obtain ⟨m, rfl⟩ := Ent.list l
  refine Tends.ex ?_
  unfold M_conciergelaw19_SnapBack
  refine Tends.bind awake19 (Tends.neg (by simp) ?_)
  refine Tends.bind (small_tends m 30 (by omega)) ?_
  cases hs : smL 30 m
  · exact Tends.pos rfl (.ret _)
  refine Tends.neg (by simp) ?_
  obtain ⟨q1, q2⟩ := smL_parts hs
  obtain ⟨l', hl1, hl2, hl3⟩ := sorted_tends m (by omega)
  have hs' : Smalls l' := q2.sub hl3
  refine Tends.bind hl1 ?_
  have h : TendsL M_conciergelaw19_SnapBack_l0 (top, [(m.map Ent.t, ()), (l'.map Ent.t, ())], (2 : Int), (0 : Int), ()) (.inl ()) := by
    refine TendsL.step (back_step [(m.map Ent.t, ()), (l'.map Ent.t, ())] top 0 (by simp) (by simp) m rfl (by omega) q2) ?_
    refine TendsL.step (back_step [(m.map Ent.t, ()), (l'.map Ent.t, ())] top 1 (by simp) (by simp) l' rfl (by omega) hs') ?_
    refine TendsL.fin (.of fun F => ?_)
    unfold M_conciergelaw19_SnapBack_l0
    rw [if_neg (by simp)]
  exact Tends.bind h.run (.of fun F => rfl)

end Go.Vm
