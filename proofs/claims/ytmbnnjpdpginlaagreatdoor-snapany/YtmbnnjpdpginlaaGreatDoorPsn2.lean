/- Snapshots read: plainly; the program's. No condition. -/
import Derived.Test.YtmbnnjpdpginlaaGreatDoorPsn1
namespace Go.Vm
open Go Go.Proofs
set_option linter.unusedVariables false
set_option linter.unusedSimpArgs false

def openAll : List (List UInt8) → Option (List Ent)
  | [] => some []
  | s :: r => (openE s).bind fun e => (openAll r).map (e :: ·)
def hdO (h : List UInt8) (m : Nat) : Option Int := if h.length < 3 ∨ (frst (h.drop 3)).2 = 0 ∨ h ≠ cs1 ++ numL (frst (h.drop 3)).1 ++ numL m then none else some ((frst (h.drop 3)).1 : Int)
def tailR (h : List UInt8) (t : List (List UInt8)) : List Ent × Int × Int := match hdO h t.length with
  | none => ([], 0, 3)
  | some top => match openAll t with
    | none => ([], 0, 3)
    | some l => if mayL l top = true then (l, top, 0) else ([], 0, 3)
def snapR (s : List UInt8) : List Ent × Int × Int := if s = [] then ([], 0, 0) else if (splL s).2.2 ≠ 0 then ([], 0, (splL s).2.2) else match (splL s).1 with
  | [] => ([], 0, 3)
  | h :: t => tailR h t
theorem openAll_len : ∀ {t : List (List UInt8)} {l : List Ent}, openAll t = some l → l.length = t.length
  | [], l, h => by cases h; rfl
  | s :: r, l, h => by
    rw [openAll] at h
    obtain ⟨e, h1, h2⟩ := Option.bind_eq_some_iff.1 h
    obtain ⟨l', h3, rfl⟩ := Option.map_eq_some_iff.1 h2
    simp [openAll_len h3]
theorem openAll_may : ∀ {t : List (List UInt8)} {l : List Ent}, openAll t = some l → ∀ e ∈ l, mayB e = true
  | [], l, h => by cases h; intro e he; cases he
  | s :: r, l, h => by
    rw [openAll] at h
    obtain ⟨e, h1, h2⟩ := Option.bind_eq_some_iff.1 h
    obtain ⟨l', h3, rfl⟩ := Option.map_eq_some_iff.1 h2
    intro x hx
    rcases List.mem_cons.1 hx with rfl | hx
    · exact ((openE_iff s _).1 h1).1
    · exact openAll_may h3 x hx
theorem openAll_bytes : ∀ (l : List Ent), (∀ e ∈ l, mayB e = true) → openAll (l.map bytesE) = some l
  | [], _ => rfl
  | e :: l, h => by
    rw [List.map_cons, openAll, (openE_iff _ e).2 ⟨h e (List.mem_cons_self ..), rfl⟩, openAll_bytes l (fun x hx => h x (List.mem_cons_of_mem _ hx))]
    rfl
theorem frst_num (n : Nat) (r : List UInt8) (h : n ≤ 4611686018427387904) : frst (numL n ++ r) = (n, (numL n).length) := by
  unfold frst
  rw [decN_num n r (by omega)]
  exact if_pos h
theorem hdO_iff (h : List UInt8) (m : Nat) (T : Int) : hdO h m = some T ↔ (0 ≤ T ∧ T ≤ 4611686018427387904 ∧ h = cs1 ++ nI T ++ numL m) := by
  have f62 : (frst (h.drop 3)).1 ≤ 4611686018427387904 := by
    unfold frst
    cases decN (h.drop 3) with
    | none => simp
    | some x => obtain ⟨n, r⟩ := x; simp only; split <;> simp; assumption
  unfold hdO
  constructor
  · intro q
    split at q
    · cases q
    · rename_i hq
      cases q
      have h3 : h = cs1 ++ numL (frst (h.drop 3)).1 ++ numL m := by
        by_cases e : h = cs1 ++ numL (frst (h.drop 3)).1 ++ numL m
        · exact e
        · exact absurd (.inr (.inr e)) hq
      refine ⟨by omega, by omega, ?_⟩
      unfold nI
      rw [Int.toNat_natCast]
      exact h3
  · rintro ⟨h0, h1, h2⟩
    have hd : h.drop 3 = numL T.toNat ++ numL m := by
      rw [h2, List.append_assoc]
      rfl
    have hf := frst_num T.toNat (numL m) (by omega)
    rw [hd, hf]
    have hp := numL_pos T.toNat
    rw [if_neg]
    · congr 1
      simp only
      omega
    · rintro (q | q | q)
      · rw [h2] at q
        simp [cs1] at q
        omega
      · simp only at q; omega
      · exact q h2
theorem tailR_bad {h : List UInt8} {t : List (List UInt8)} (hb : ∀ T, hdO h t.length = some T → 1073741824 < T ∨ 200 < t.length) : tailR h t = ([], 0, 3) := by
  unfold tailR
  cases hh : hdO h t.length with
  | none => rfl
  | some T =>
    simp only
    cases ho : openAll t with
    | none => rfl
    | some l =>
      simp only
      have := openAll_len ho
      have hm : mayL l T = false := by
        unfold mayL
        rw [decide_eq_false (fun q => by rcases hb T hh with h | h <;> omega), Bool.false_and]
      rw [hm, if_neg (by simp)]

/-! ### the first frame, as the program reads it -/
def pHd : List UInt8 → Option ((List UInt8 × Int × Int) × List UInt8) := pBind (pRaw 3) fun k => pBind (pNum 1073741824) fun top => pBind (pNum 200) fun n s => some ((k, top, n), s)
def oHd : OS → (List UInt8 × Int × Int) × OS := obind (oRaw 3) fun k => obind (oNum 1073741824) fun top => obind (oNum 200) fun n => oret (k, top, n)
theorem snd_oHd : Snd pHd oHd := by
  unfold pHd oHd
  exact Snd.bind (Snd.raw 3) fun k => Snd.bind (Snd.num 1073741824) fun top => Snd.bind (Snd.num 200) fun n => Snd.ret _
def okHd (x : (List UInt8 × Int × Int) × OS) (m : Nat) : Bool := decide (x.1.1 = cs1) && ((!x.2.2 && decide (x.2.1 = [])) && decide (x.1.2.2 = (m : Int)))
theorem okHd_true {h : List UInt8} {m : Nat} (hk : okHd (oHd (h, false)) m = true) : hdO h m = some (oHd (h, false)).1.2.1 := by
  have hs := snd_oHd.1 h
  unfold okHd at hk
  simp only [Bool.and_eq_true, decide_eq_true_eq, Bool.not_eq_true'] at hk
  obtain ⟨h1, ⟨h2, h3⟩, h4⟩ := hk
  cases hp : pHd h with
  | none =>
    have := hs.2 hp
    rw [h2] at this
    cases this
  | some x =>
    obtain ⟨⟨k, top, n⟩, r⟩ := x
    have e := hs.1 _ r hp
    rw [e] at h1 h3 h4 ⊢
    simp only at h1 h3 h4 ⊢
    subst h1 h3 h4
    unfold pHd at hp
    obtain ⟨k', s1, g1, hp⟩ := pBind_inv hp
    obtain ⟨top', s2, g2, hp⟩ := pBind_inv hp
    obtain ⟨n', s3, g3, hp⟩ := pBind_inv hp
    cases hp
    obtain ⟨e2, q0, q1⟩ := pNum_inv g2
    rw [hdO_iff]
    refine ⟨q0, by omega, ?_⟩
    rw [(pRaw_inv g1).1, e2, (pNum_inv g3).1, List.append_nil, List.append_assoc]
    unfold nI
    rw [Int.toNat_natCast]
theorem okHd_false {h : List UInt8} {m : Nat} (hk : okHd (oHd (h, false)) m = false) : ∀ T, hdO h m = some T → 1073741824 < T ∨ 200 < m := by
  intro T hT
  rw [hdO_iff] at hT
  obtain ⟨h0, h1, h2⟩ := hT
  by_cases hb : 1073741824 < T ∨ 200 < m
  · exact hb
  · exfalso
    have hp : pHd h = some ((cs1, T, (m : Int)), []) := by
      unfold pHd
      rw [h2, List.append_assoc, pBind_some (pRaw_raw (n := 3) (t := cs1) _ rfl), pBind_some (pNum_num _ h0 (by omega) (by omega))]
      have := pNum_num (lim := 200) (n := (m : Int)) [] (by omega) (by omega) (by omega)
      rw [List.append_nil] at this
      unfold nI at this
      rw [Int.toNat_natCast] at this
      rw [pBind_some this]
    have e := (snd_oHd.1 h).1 _ _ hp
    rw [e] at hk
    unfold okHd at hk
    simp at hk

/-! ### parts -/
theorem splG_parts : ∀ (f : Nat) (s : List UInt8), (splG f s).1.length ≤ s.length ∧ ∀ x ∈ (splG f s).1, x.length ≤ s.length
  | 0, s => by simp [splG]
  | f + 1, s => by
    rw [splG]
    split
    · simp
    · split
      · simp
      · rename_i hne h0
        have h0' : (fstL s).2.2 = 0 := by
          by_cases e : (fstL s).2.2 = 0
          · exact e
          · exact absurd e h0
        obtain ⟨q1, q2, q3⟩ := fstL_ok (s := s) (x := (fstL s).1) (n := (fstL s).2.1) (by rw [← h0'])
        have ih := splG_parts f (s.drop (fstL s).2.1)
        rw [List.length_drop] at ih
        refine ⟨by simp only [List.length_cons]; omega, fun x hx => ?_⟩
        rcases List.mem_cons.1 hx with rfl | hx
        · omega
        · have := ih.2 x hx; omega
theorem splL_ne {s : List UInt8} (hs : s ≠ []) (h : (splL s).2.2 = 0) : (splL s).1 ≠ [] := by
  unfold splL at h ⊢
  cases s with
  | nil => exact absurd rfl hs
  | cons c s =>
    rw [List.length_cons, splG, if_neg hs] at h ⊢
    split
    · rename_i h0
      rw [if_pos h0] at h
      exact absurd h h0
    · simp
abbrev RdR : Type := (Int × Unit × List En × Unit) ⊕ (Unit × Int × Int × List En × Unit)
def rdRes (top : Int) (acc : List Ent) : Option (List Ent) → RdR
  | none => .inr ((), 0, 3, [], ())
  | some l => .inl (top, (), (acc ++ l).map Ent.t, ())
theorem sread_loop (t : List (List UInt8)) (ht : t.length ≤ 1000000) (hq : ∀ x ∈ t, x.length ≤ 1000000) (top : Int) : ∀ (m k : Nat) (acc : List Ent), k + m = t.length → acc.length + m ≤ 2000000 →
    TendsL M_snap_Read_l0 (top, (), t, (t.length : Int), (k : Int), acc.map Ent.t, ()) (rdRes top acc (openAll (t.drop k)))
  | 0, k, acc, hk, ha => by
    refine TendsL.fin (.of fun F => ?_)
    unfold M_snap_Read_l0
    rw [if_neg (by simp; omega), List.drop_of_length_le (by omega)]
    simp [rdRes, openAll]
  | m + 1, k, acc, hk, ha => by
    have hlt : k < t.length := by omega
    have hd : t.drop k = t[k] :: t.drop (k + 1) := List.drop_eq_getElem_cons hlt
    have hi : idx t (k : Int) = some t[k] := idxN t k _ rfl hlt
    have ho := eopen_tends t[k] (hq _ (List.getElem_mem hlt))
    rw [hd]
    unfold openR at ho
    cases he : openE t[k] with
    | none =>
      rw [he] at ho
      refine TendsL.fin ?_
      have : openAll (t[k] :: t.drop (k + 1)) = none := by rw [openAll, he]; rfl
      rw [this]
      unfold M_snap_Read_l0
      exact Tends.pos (by simp; omega) (Tends.bind (.const hi) (Tends.bind ho (Tends.pos (by simp) (.ret _))))
    | some e =>
      rw [he] at ho
      have hr : rdRes top acc (openAll (t[k] :: t.drop (k + 1))) = rdRes top (acc ++ [e]) (openAll (t.drop (k + 1))) := by
        rw [openAll, he]
        cases openAll (t.drop (k + 1)) with
        | none => rfl
        | some l => simp [rdRes]
      rw [hr]
      refine TendsL.step ?_ (sread_loop t ht hq top m (k + 1) (acc ++ [e]) (by omega) (by simp; omega))
      unfold M_snap_Read_l0
      refine Tends.pos (by simp; omega) (Tends.bind (.const hi) (Tends.bind ho (Tends.neg (by simp) (Tends.pos (by simp; omega) (.of fun F => ?_)))))
      simp only [next_nat k (by omega), List.map_append, List.map_cons, List.map_nil]
def tt (y : List Ent × Int × Int) : List En × Int × Int := (y.1.map Ent.t, y.2.1, y.2.2)
theorem sread_tends (s : List UInt8) (hs : s.length ≤ 1000000) : Tends (fun F => M_snap_Read F s) (tt (snapR s)) := by
  unfold M_snap_Read snapR
  by_cases h0 : s = []
  · rw [if_pos h0]
    exact Tends.pos (decide_eq_true h0) (.ret _)
  rw [if_neg h0]
  refine Tends.neg (fun h => h0 (of_decide_eq_true h)) (Tends.bind (split_tends s hs) ?_)
  by_cases h1 : (splL s).2.2 ≠ 0
  · rw [if_pos h1]
    exact Tends.pos (by simpa using h1) (.ret _)
  rw [if_neg h1]
  refine Tends.neg (by simpa using h1) ?_
  have h1' : (splL s).2.2 = 0 := by
    by_cases e : (splL s).2.2 = 0
    · exact e
    · exact absurd e h1
  have hne := splL_ne h0 h1'
  have hpt := splG_parts s.length s
  change (splL s).1.length ≤ _ ∧ ∀ x ∈ (splL s).1, _ at hpt
  generalize (splL s).1 = L at hne hpt ⊢
  cases L with
  | nil => exact absurd rfl hne
  | cons h t =>
  simp only
  obtain ⟨pl, pe⟩ := hpt
  rw [List.length_cons] at pl
  have hi : idx (h :: t) 0 = some h := rfl
  obtain ⟨⟨⟨k, q1⟩, x1⟩, ⟨⟨top, q2⟩, x2⟩, ⟨n, q3⟩, x3⟩ : (∃ x, x = oRaw 3 (h, false)) ∧ (∃ x, x = oNum 1073741824 (oRaw 3 (h, false)).2) ∧ ∃ x, x = oNum 200 (oNum 1073741824 (oRaw 3 (h, false)).2).2 := ⟨⟨_, rfl⟩, ⟨_, rfl⟩, ⟨_, rfl⟩⟩
  rw [← x1] at x2 x3
  simp only at x2 x3
  rw [← x2] at x3
  simp only at x3
  have hH : oHd (h, false) = ((k, top, n), q3) := by
    unfold oHd obind oret
    rw [← x1]; simp only
    rw [← x2]; simp only
    rw [← x3]
  have t2 := onum_tends q1 1073741824 (by omega)
  have t3 := onum_tends q2 200 (by omega)
  rw [← x2] at t2
  rw [← x3] at t3
  refine Tends.bind (.const hi) (Tends.bind (r := (h, false, ())) (.of fun F => rfl) ?_)
  refine Tends.bind (m := fun F => M_pack_Opener_Raw F (st3 (h, false), ((3 : Nat) : Int))) (r := (k, st3 q1)) (.of fun F => by rw [oraw_eq, ← x1]) (Tends.bind t2 (Tends.bind t3 ?_))
  have hlen : IntKind.i64.wrap (((h :: t).length : Int) - 1) = (t.length : Int) := by rw [wrap64] <;> simp <;> omega
  refine Tends.bind (r := (h :: t, top, n, !(decide (k = cs1) && (!q3.2 && decide (q3.1 = []))), ())) ?_ ?_
  · by_cases hk : k = cs1
    · rw [decide_eq_true hk, Bool.true_and]
      exact Tends.pos (by simp [hk, cs1]) (Tends.bind (m := fun F => M_pack_Opener_Done F (st3 q3)) (.of fun F => odone_eq F _) (.ret _))
    · rw [decide_eq_false hk, Bool.false_and]
      exact Tends.neg (by simp; exact hk) (.ret _)
  refine Tends.bind (r := (h :: t, top, !okHd (oHd (h, false)) t.length, ())) (.of fun F => ?_) ?_
  · have ha : okHd ((k, top, n), q3) t.length = ((decide (k = cs1) && (!q3.2 && decide (q3.1 = []))) && decide (n = (t.length : Int))) := by unfold okHd; simp only [Bool.and_assoc]
    rw [hH, ha]
    simp only [hlen]
    generalize (decide (k = cs1) && (!q3.2 && decide (q3.1 = []))) = c
    cases c <;> rfl
  cases hk : okHd (oHd (h, false)) t.length
  · rw [tailR_bad (okHd_false hk)]
    exact Tends.pos rfl (.ret _)
  · have hO := okHd_true hk
    rw [hH] at hO
    simp only at hO
    unfold tailR
    rw [hO]
    simp only
    refine Tends.neg (by simp) ?_
    have s1 : sub (h :: t) 1 ((h :: t).length : Int) = some t := by
      have := subE (h :: t) 1 (by simp)
      exact this
    refine Tends.bind (.const s1) ?_
    have hl := sread_loop t (by omega) (fun x hx => Nat.le_trans (pe x (List.mem_cons_of_mem _ hx)) hs) top t.length 0 [] (by omega) (by simp; omega)
    rw [List.drop_zero] at hl
    refine Tends.bind hl.run ?_
    cases ho : openAll t with
    | none => exact .of fun F => rfl
    | some l =>
      have hmay := openAll_may ho
      have hll := openAll_len ho
      have hsm : Smalls l := fun e he => by
        have := mayB_small (hmay e he)
        exact ⟨by have := this.2.2.2.1; omega, by have := this.2.2.2.2.1; omega, by have := this.2.2.2.2.2; omega⟩
      refine Tends.congr (m := fun F => (M_snap_may F (l.map Ent.t, top)).bind fun v15 => if (!v15) = true then some ([], 0, 3) else some (l.map Ent.t, top, (0 : Int))) ?_ (fun F => rfl)
      refine Tends.bind (smay_tends l (by omega) hsm top) ?_
      simp only
      cases mayL l top
      · exact Tends.pos rfl (.ret _)
      · exact Tends.neg (by simp) (.ret _)
theorem snapR_snapW {l : List Ent} {top : Int} (h : mayL l top = true) : snapR (snapW l top) = (l, top, 0) := by
  obtain ⟨⟨h0, h1, h2⟩, _, hall⟩ := mayL_parts h
  have lh := headS_len top l.length h0 h1 h2
  have hlen : ∀ x ∈ headS top l.length :: l.map bytesE, x.length ≤ 2000 := by
    intro x hx
    rcases List.mem_cons.1 hx with rfl | hx
    · omega
    · obtain ⟨e, he, rfl⟩ := List.mem_map.1 hx
      have := bytesE_len (hall e he)
      omega
  have hW : snapW l top = (headS top l.length :: l.map bytesE).flatMap frm ++ [] := by
    unfold snapW
    rw [List.flatMap_cons, List.append_nil, List.flatMap_map]
  have hs : splL (snapW l top) = (headS top l.length :: l.map bytesE, (snapW l top).length, 0) := by
    unfold splL
    have := splG_frm (headS top l.length :: l.map bytesE) (snapW l top).length [] hlen (by rw [hW]; exact Nat.le_refl _)
    rw [← hW] at this
    rw [this]
    have e0 : ∀ f, splG f [] = ([], 0, 0) := fun f => by cases f <;> simp [splG]
    rw [e0]
    simp only [List.append_nil, Nat.add_zero]
    rw [hW, List.append_nil]
  have hne : snapW l top ≠ [] := fun e => by
    have : (snapW l top).length = 0 := by rw [e]; rfl
    have hf := frm_len (headS top l.length)
    unfold snapW at this
    rw [List.length_append] at this
    omega
  unfold snapR
  rw [if_neg hne, hs]
  simp only [ne_eq, not_true_eq_false, if_false]
  unfold tailR
  rw [List.length_map, (hdO_iff _ l.length top).2 ⟨h0, by omega, by unfold headS nI; rw [Int.toNat_natCast]⟩]
  simp only
  rw [openAll_bytes l hall]
  simp only
  rw [if_pos h]

end Go.Vm
