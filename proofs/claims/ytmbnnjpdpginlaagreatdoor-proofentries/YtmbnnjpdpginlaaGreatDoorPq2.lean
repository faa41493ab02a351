/- Roots of entries, and what shows one of them: plainly; the law. No condition. -/
import Derived.Test.YtmbnnjpdpginlaaGreatDoorPq1
import Derived.Test.YtmbnnjpdpginlaaGreatDoorPp4a
namespace Go.Vm
open Go Go.Proofs
set_option linter.unusedVariables false
set_option linter.unusedSimpArgs false

theorem sm_small {l : List Ent} (h : Smalls l) : ∀ e ∈ l, e.small := fun e he => by
  have := h e he
  exact ⟨by omega, by omega, by omega, by omega, by omega, by omega⟩
set_option maxHeartbeats 2000000 in
theorem bytesE_small {e : Ent} (h : mayB e = true) : (bytesE e).length ≤ 10000 := by
  obtain ⟨p1, p2, p3, p4⟩ := mayB_parts h
  obtain ⟨s1, s2, s3, s4, s5, s6⟩ := mayB_small h
  have st := mayB_st h
  have su := mayB_su h
  have n1 := nI_len e.te (by omega) (by omega)
  have n2 := numL_len e.key.length (by omega)
  have n3 := nI_len e.st (by omega) (by omega)
  have n4 := nI_len e.ep (by omega) (by omega)
  have n5 := nI_len e.tk (by omega) (by omega)
  have n6 := nI_len e.pt (by omega) (by omega)
  have n7 := nI_len e.le (by omega) (by omega)
  have n8 := nI_len e.ex (by omega) (by omega)
  have n9 := nI_len e.su (by omega) (by omega)
  have m1 := numL_len e.me.length (by omega)
  have m2 := numL_len e.pa.length (by omega)
  have m3 := numL_len e.bo.length (by omega)
  have m4 := numL_len e.tx.length (by omega)
  unfold bytesE txt
  split
  · simp only [List.length_append]; omega
  · split <;> simp only [List.length_append, List.length_nil] <;> omega

/-! ### texts -/
abbrev TxR : Type := (Unit × List (List UInt8) × Unit) ⊕ (Unit × Int × List (List UInt8) × Unit)
theorem texts_loop (l : List Ent) (hl : l.length ≤ 1000) (hs : Smalls l) : ∀ (m k : Nat) (acc : List (List UInt8)), k + m = l.length → acc.length + m ≤ 100000 →
    TendsL M_proof_texts_l0 ((), l.map Ent.t, (l.length : Int), (k : Int), acc, ()) (if (l.drop k).all mayB = true then (.inl ((), acc ++ (l.drop k).map bytesE, ()) : TxR) else .inr ((), 1, [], ()))
  | 0, k, acc, hk, ha => by
    refine TendsL.fin (.of fun F => ?_)
    unfold M_proof_texts_l0
    rw [if_neg (by simp; omega), List.drop_of_length_le (by omega)]
    simp
  | m + 1, k, acc, hk, ha => by
    have hlt : k < l.length := by omega
    have hd : l.drop k = l[k] :: l.drop (k + 1) := List.drop_eq_getElem_cons hlt
    obtain ⟨e, he⟩ : ∃ e, e = l[k] := ⟨_, rfl⟩
    have hi : idx (l.map Ent.t) (k : Int) = some e.t := by rw [idxT l k _ rfl hlt, he]
    have hmem : e ∈ l := by rw [he]; exact List.getElem_mem hlt
    have hp := epack_tends e (sm_small hs e hmem)
    rw [hd, ← he, List.all_cons]
    cases hm : mayB e
    · rw [hm] at hp
      rw [Bool.false_and]
      refine TendsL.fin ?_
      unfold M_proof_texts_l0
      exact Tends.pos (by simp; omega) (Tends.bind (.const hi) (Tends.bind hp (Tends.pos rfl (.ret _))))
    · rw [hm, if_pos rfl] at hp
      rw [Bool.true_and, List.map_cons]
      have ih := texts_loop l hl hs m (k + 1) (acc ++ [bytesE e]) (by omega) (by simp; omega)
      rw [List.append_assoc] at ih
      refine TendsL.step ?_ ih
      unfold M_proof_texts_l0
      refine Tends.pos (by simp; omega) (Tends.bind (.const hi) (Tends.bind hp (Tends.neg (by simp) (Tends.pos (by simp; omega) (.of fun F => ?_)))))
      simp only [next_nat k (by omega)]
theorem texts_tends (l : List Ent) (hl : l.length ≤ 1000) (hs : Smalls l) : Tends (fun F => M_proof_texts F (l.map Ent.t)) (if l.all mayB = true then (l.map bytesE, 0) else ([], 1)) := by
  unfold M_proof_texts
  have h := texts_loop l hl hs l.length 0 [] (by omega) (by simp; omega)
  rw [List.drop_zero] at h
  simp only [List.length_map]
  refine Tends.bind h.run ?_
  cases l.all mayB
  · exact .of fun F => rfl
  · exact .of fun F => rfl
theorem sm_bytes {l : List Ent} (hl : l.length ≤ 1000) (h : l.all mayB = true) : Sm (l.map bytesE) := by
  refine ⟨by simp; omega, fun x hx => ?_⟩
  obtain ⟨e, he, rfl⟩ := List.mem_map.1 hx
  exact bytesE_small (List.all_eq_true.1 h e he)
theorem entries_tends (l : List Ent) (hl : l.length ≤ 1000) (hs : Smalls l) : Tends (fun F => M_proof_Entries F (l.map Ent.t)) (if l.all mayB = true then (rootD (l.map bytesE), 0) else ([], 1)) := by
  unfold M_proof_Entries
  refine Tends.bind (texts_tends l hl hs) ?_
  cases h : l.all mayB
  · exact Tends.pos rfl (.ret _)
  · exact Tends.neg (by simp) (Tends.bind (root_tends _ (sm_bytes hl h)) (.ret _))

/-! ### where one is -/
def isE (t : Int) (k : List UInt8) (e : Ent) : Bool := decide (e.te = t) && decide (e.key = k)
def fnd (t : Int) (k : List UInt8) : Nat → List Ent → Int
  | _, [] => -1
  | i, e :: r => if isE t k e = true then (i : Int) else fnd t k (i + 1) r
theorem fnd_cases (t : Int) (k : List UInt8) : ∀ (i : Nat) (l : List Ent), fnd t k i l = -1 ∨ ∃ j : Nat, fnd t k i l = (j : Int) ∧ i ≤ j ∧ j < i + l.length
  | i, [] => .inl rfl
  | i, e :: r => by
    unfold fnd
    by_cases h : isE t k e = true
    · rw [if_pos h]
      exact .inr ⟨i, rfl, by omega, by rw [List.length_cons]; omega⟩
    · rw [if_neg h]
      rcases fnd_cases t k (i + 1) r with h | ⟨j, h1, h2, h3⟩
      · exact .inl h
      · exact .inr ⟨j, h1, by omega, by rw [List.length_cons]; omega⟩
theorem show1_eq (F : Nat) (e : Ent) (t : Int) (k : List UInt8) : M_proof_Show_1 F (e.t, (t, ()), k, ()) = some (isE t k e) := by
  unfold M_proof_Show_1 isE
  have e1 : e.t.1 = e.te := rfl
  have e2 : e.t.2.1 = e.key := rfl
  simp only [e1, e2]
  cases decide (e.te = t) <;> rfl
abbrev IxR : Type := Unit ⊕ (Int × Unit)
theorem index_loop (l : List Ent) (hl : l.length ≤ 1000000) (t : Int) (key : List UInt8) : ∀ (m k : Nat), k + m = l.length →
    TendsL M_slices_IndexFunc_api_Entry_api_Entry_l0 (l.map Ent.t, ((t, ()), (key, ()), ()), (l.length : Int), (k : Int), ()) (if fnd t key k (l.drop k) = -1 then (.inl () : IxR) else .inr (fnd t key k (l.drop k), ()))
  | 0, k, hk => by
    refine TendsL.fin (.of fun F => ?_)
    unfold M_slices_IndexFunc_api_Entry_api_Entry_l0
    rw [if_neg (by simp; omega), List.drop_of_length_le (by omega)]
    rfl
  | m + 1, k, hk => by
    have hlt : k < l.length := by omega
    have hd : l.drop k = l[k] :: l.drop (k + 1) := List.drop_eq_getElem_cons hlt
    obtain ⟨e, he⟩ : ∃ e, e = l[k] := ⟨_, rfl⟩
    have hi : idx (l.map Ent.t) (k : Int) = some e.t := by rw [idxT l k _ rfl hlt, he]
    rw [hd, ← he]
    cases hq : isE t key e
    · have hf : fnd t key k (e :: l.drop (k + 1)) = fnd t key (k + 1) (l.drop (k + 1)) := by rw [fnd, hq]; rfl
      rw [hf]
      refine TendsL.step (.of fun F => ?_) (index_loop l hl t key m (k + 1) (by omega))
      unfold M_slices_IndexFunc_api_Entry_api_Entry_l0
      rw [if_pos (by simp; omega)]
      simp only [hi, Option.bind_some, show1_eq, hq, next_nat k (by omega)]
      rfl
    · have hf : fnd t key k (e :: l.drop (k + 1)) = (k : Int) := by rw [fnd, hq]; rfl
      rw [hf, if_neg (by omega)]
      refine TendsL.fin (.of fun F => ?_)
      unfold M_slices_IndexFunc_api_Entry_api_Entry_l0
      rw [if_pos (by simp; omega)]
      simp only [hi, Option.bind_some, show1_eq, hq]
      rfl
theorem index_tends (l : List Ent) (hl : l.length ≤ 1000000) (t : Int) (key : List UInt8) : Tends (fun F => M_slices_IndexFunc_api_Entry_api_Entry F (l.map Ent.t, (t, ()), (key, ()), ())) (fnd t key 0 l) := by
  unfold M_slices_IndexFunc_api_Entry_api_Entry
  have h := index_loop l hl t key l.length 0 (by omega)
  rw [List.drop_zero] at h
  simp only [List.length_map]
  refine Tends.bind h.run (.of fun F => ?_)
  by_cases hq : fnd t key 0 l = -1
  · rw [if_pos hq, hq]; rfl
  · rw [if_neg hq]; rfl
def shwD (l : List Ent) (t : Int) (key : List UInt8) : Int × List (List UInt8) × Bool := if l.all mayB = true ∧ 0 ≤ fnd t key 0 l then (fnd t key 0 l, pathD (l.map bytesE) (fnd t key 0 l).toNat, true) else (0, [], false)
theorem show_tends (l : List Ent) (hl : l.length ≤ 1000) (hs : Smalls l) (t : Int) (key : List UInt8) : Tends (fun F => M_proof_Show F (l.map Ent.t, t, key)) (shwD l t key) := by
  unfold M_proof_Show shwD
  refine Tends.bind (texts_tends l hl hs) (Tends.bind (index_tends l (by omega) t key) ?_)
  cases hm : l.all mayB
  · refine Tends.bind (r := ([], fnd t key 0 l, true, ())) (.of fun F => rfl) ?_
    exact Tends.pos rfl (.ret _)
  · rw [if_pos rfl]
    rcases fnd_cases t key 0 l with h | ⟨j, h, _, hj⟩
    · rw [h]
      refine Tends.bind (r := (l.map bytesE, -1, true, ())) (.of fun F => rfl) ?_
      exact Tends.pos rfl (.ret _)
    · rw [h]
      have h0 : decide ((j : Int) < 0) = false := decide_eq_false (by omega)
      refine Tends.bind (r := (l.map bytesE, (j : Int), false, ())) (.of fun F => by rw [h0]; rfl) ?_
      have hp := path_in (l.map bytesE) (sm_bytes hl hm) j (by simp; omega)
      rw [if_pos ⟨rfl, by omega⟩]
      exact Tends.neg (by simp) (Tends.bind hp (.ret _))

/-! ### the law -/
abbrev LS : Type := List En × Int × List UInt8 × Unit × Int × Bool × List En × Int × Int × List (List UInt8) × Unit
def atN (a : Int) (f : Int) : Int := if a < 0 then f else a
theorem law_loop (l : List Ent) (hl : l.length ≤ 1000) (hs : Smalls l) (t : Int) (key : List UInt8) : ∀ (m k : Nat) (a : Int) (may : Bool) (acc : List (List UInt8)), k + m = l.length → acc.length + m ≤ 100000 → (a = -1 ∨ 0 ≤ a) →
    ∃ acc' : List (List UInt8), TendsL M_conciergelaw41_ProofEntries_l0 (l.map Ent.t, t, key, (), a, may, l.map Ent.t, (l.length : Int), (k : Int), acc, ()) (l.map Ent.t, t, key, (), atN a (fnd t key k (l.drop k)), may && (l.drop k).all mayB, acc', ()) ∧
      ((l.drop k).all mayB = true → acc' = acc ++ (l.drop k).map bytesE)
  | 0, k, a, may, acc, hk, ha, hq => by
    refine ⟨acc, TendsL.fin (.of fun F => ?_), fun _ => by rw [List.drop_of_length_le (by omega)]; simp⟩
    unfold M_conciergelaw41_ProofEntries_l0
    rw [if_neg (by simp; omega), List.drop_of_length_le (by omega)]
    have : atN a (fnd t key k []) = a := by
      unfold atN fnd
      rcases hq with rfl | h
      · rfl
      · rw [if_neg (by omega)]
    rw [this]
    simp
  | m + 1, k, a, may, acc, hk, ha, hq => by
    have hlt : k < l.length := by omega
    have hd : l.drop k = l[k] :: l.drop (k + 1) := List.drop_eq_getElem_cons hlt
    obtain ⟨e, he⟩ : ∃ e, e = l[k] := ⟨_, rfl⟩
    have hi : idx (l.map Ent.t) (k : Int) = some e.t := by rw [idxT l k _ rfl hlt, he]
    have hmem : e ∈ l := by rw [he]; exact List.getElem_mem hlt
    obtain ⟨b, hb, hbe⟩ := rbytes_any e (hs e hmem)
    obtain ⟨a', ha'⟩ : ∃ a' : Int, a' = if a < 0 then (if isE t key e = true then (k : Int) else a) else a := ⟨_, rfl⟩
    have hq' : a' = -1 ∨ 0 ≤ a' := by
      rw [ha']
      split
      · split
        · exact .inr (by omega)
        · exact hq
      · exact .inr (by omega)
    obtain ⟨acc', h1, h2⟩ := law_loop l hl hs t key m (k + 1) a' (may && mayB e) (acc ++ [b]) (by omega) (by simp; omega) hq'
    have hat : atN a (fnd t key k (e :: l.drop (k + 1))) = atN a' (fnd t key (k + 1) (l.drop (k + 1))) := by
      unfold atN
      rw [fnd, ha']
      by_cases h : a < 0
      · rw [if_pos h, if_pos h]
        by_cases h' : isE t key e = true
        · rw [if_pos h', if_pos h', if_neg (by omega)]
        · rw [if_neg h', if_neg h', if_pos h]
      · rw [if_neg h, if_neg h, if_neg h]
    rw [hd, ← he, hat, List.all_cons, ← Bool.and_assoc]
    refine ⟨acc', TendsL.step ?_ h1, fun h => ?_⟩
    · unfold M_conciergelaw41_ProofEntries_l0
      refine Tends.pos (by simp; omega) ?_
      refine Tends.bind (r := (l.map Ent.t, t, key, (), a', may && mayB e, l.map Ent.t, (l.length : Int), (k : Int), acc ++ [b], ())) ?_ (.of fun F => ?_)
      · refine Tends.bind (.const hi) ?_
        refine Tends.bind (r := (l.map Ent.t, t, key, (), a, (k : Int), (), l.map Ent.t, (l.length : Int), (k : Int), may && mayB e, acc, e.t, ())) ?_ ?_
        · cases may
          · exact Tends.neg (by simp) (.ret _)
          · exact Tends.pos rfl (Tends.bind (rmay_tends e) (.ret _))
        refine Tends.bind hb (Tends.pos (by simp; omega) ?_)
        refine Tends.bind (r := (l.map Ent.t, t, key, (), a, may && mayB e, (k : Int), (), l.map Ent.t, (l.length : Int), (k : Int), decide (a < 0) && decide (e.te = t), acc ++ [b], e.t, ())) (.of fun F => ?_) ?_
        · have e1 : e.t.1 = e.te := rfl
          simp only [e1]
          cases decide (a < 0) <;> rfl
        refine Tends.bind (r := (l.map Ent.t, t, key, (), a, may && mayB e, (k : Int), l.map Ent.t, (l.length : Int), (k : Int), decide (a < 0) && isE t key e, acc ++ [b], ())) (.of fun F => ?_) (.of fun F => ?_)
        · have e2 : e.t.2.1 = e.key := rfl
          simp only [e2]
          unfold isE
          cases decide (a < 0) <;> cases decide (e.te = t) <;> rfl
        · rw [ha']
          by_cases h : a < 0
          · rw [if_pos h, decide_eq_true h]
            cases isE t key e <;> rfl
          · rw [if_neg h, decide_eq_false h]
            rfl
      · simp only [next_nat k (by omega)]
    · simp only [Bool.and_eq_true] at h
      rw [h2 h.2, hbe h.1, List.map_cons, List.append_assoc]
      rfl
theorem pure_conciergelaw41_ProofEntries (l : List En) (tenant : Int) (key : List UInt8) : ∃ F, M_conciergelaw41_ProofEntries F (l, tenant, key) = some true := by
  obtain ⟨m, rfl⟩ := Ent.list l
  refine Tends.ex ?_
  unfold M_conciergelaw41_ProofEntries
  refine Tends.bind awake_tends (Tends.neg (by simp) ?_)
  refine Tends.bind (r := (m.map Ent.t, tenant, key, !smL 20 m || decide (100 < (key.length : Int)), ())) (Tends.bind (small_tends m 20 (by omega)) ?_) ?_
  · cases smL 20 m
    · exact .of fun F => rfl
    · exact .of fun F => rfl
  cases hsm : smL 20 m
  · exact Tends.pos rfl (.ret _)
  cases hk : decide (100 < (key.length : Int))
  case true => exact Tends.pos rfl (.ret _)
  refine Tends.neg (by simp) ?_
  obtain ⟨q1, q2⟩ := smL_parts hsm
  have hl : m.length ≤ 1000 := by omega
  obtain ⟨tx, h1, h2⟩ := law_loop m hl q2 tenant key m.length 0 (-1) true [] (by omega) (by simp; omega) (.inl rfl)
  rw [List.drop_zero, Bool.true_and] at h1
  rw [List.drop_zero, List.nil_append] at h2
  have hat : atN (-1) (fnd tenant key 0 m) = fnd tenant key 0 m := if_pos (by omega)
  rw [hat] at h1
  simp only [List.length_map]
  refine Tends.bind h1.run (Tends.bind (entries_tends m hl q2) ?_)
  cases hm : m.all mayB
  · refine Tends.bind (r := (m.map Ent.t, (), fnd tenant key 0 m, false, [], 1, 0, [], false, tx, ())) ?_ ?_
    · have := show_tends m hl q2 tenant key
      unfold shwD at this
      rw [hm, if_neg (by simp)] at this
      exact Tends.bind this (.ret _)
    · exact Tends.pos rfl (.of fun F => rfl)
  · obtain rfl := h2 hm
    have hsb := sm_bytes hl hm
    rw [if_pos rfl]
    refine Tends.bind (r := (m.map Ent.t, (), fnd tenant key 0 m, true, rootD (m.map bytesE), 0, (shwD m tenant key).1, (shwD m tenant key).2.1, (shwD m tenant key).2.2, m.map bytesE, ())) (Tends.bind (show_tends m hl q2 tenant key) (.ret _)) ?_
    refine Tends.neg (by simp) ?_
    refine Tends.bind (r := (m.map Ent.t, (), fnd tenant key 0 m, rootD (m.map bytesE), (shwD m tenant key).1, (shwD m tenant key).2.1, (shwD m tenant key).2.2, false, m.map bytesE, ())) (Tends.bind (rroot_tends (m.map bytesE) hsb) (.of fun F => ?_)) ?_
    · simp only [decide_true, Bool.not_true]
      rfl
    rcases fnd_cases tenant key 0 m with hf | ⟨j, hf, _, hj⟩
    · have hsh : shwD m tenant key = (0, [], false) := by unfold shwD; rw [hf, if_neg (fun h => by omega)]
      rw [hsh, hf]
      refine Tends.bind (r := (m.map Ent.t, (), -1, rootD (m.map bytesE), 0, [], false, false, m.map bytesE, ())) (.of fun F => rfl) ?_
      exact Tends.neg (by simp) (Tends.pos rfl (.of fun F => rfl))
    · have hsh : shwD m tenant key = ((j : Int), pathD (m.map bytesE) j, true) := by unfold shwD; rw [hf, if_pos ⟨hm, by omega⟩, Int.toNat_natCast]
      rw [hsh, hf]
      have h0 : decide (0 ≤ (j : Int)) = true := decide_eq_true (by omega)
      refine Tends.bind (r := (m.map Ent.t, (), (j : Int), rootD (m.map bytesE), (j : Int), pathD (m.map bytesE) j, true, false, m.map bytesE, ())) (.of fun F => ?_) ?_
      · simp only [h0]
        rfl
      refine Tends.neg (by simp) (Tends.neg (by simp) ?_)
      have hjl : j < (m.map bytesE).length := by simp; omega
      have hx := idxN (m.map bytesE) j (j : Int) rfl hjl
      have hpl := pathD_len (m.map bytesE) j hsb.1
      have hc := check_tends (rootD (m.map bytesE)) ((m.map bytesE).length : Int) (j : Int) (m.map bytesE)[j] (pathD (m.map bytesE) j) (hsb.2 _ (List.getElem_mem hjl)) (by omega) (path_sp _ _)
      rw [check_own (m.map bytesE) (by have := hsb.1; omega) j (m.map bytesE)[j] (by rw [List.getElem?_eq_getElem hjl])] at hc
      rw [List.length_map] at hc
      refine Tends.bind (r := (true, ())) (Tends.pos (by simp) (Tends.bind (.const hx) (Tends.bind ?_ (.ret _)))) (.ret _)
      simp only [List.length_map]
      exact hc

end Go.Vm
