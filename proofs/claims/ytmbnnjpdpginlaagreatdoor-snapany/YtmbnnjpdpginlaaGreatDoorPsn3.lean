/- Snapshots: the law's own functions, plainly: order, places, Put, Same, sorted, Small. No condition. -/
import Derived.Test.YtmbnnjpdpginlaaGreatDoorPsn2
import Derived.Test.YtmbnnjpdpginlaaGreatDoorFlaw19
namespace Go.Vm
open Go Go.Proofs
set_option linter.unusedVariables false
set_option linter.unusedSimpArgs false

theorem subT (l : List Ent) (i : Nat) (h : i ≤ l.length) : sub (l.map Ent.t) 0 (i : Int) = some ((l.take i).map Ent.t) := by
  have := subN (l.map Ent.t) 0 i (by omega) (by simpa using h)
  rw [List.drop_zero, Nat.sub_zero, ← List.map_take] at this
  exact this
theorem subD (l : List Ent) (i : Nat) (h : i ≤ l.length) : sub (l.map Ent.t) (i : Int) ((l.map Ent.t).length : Int) = some ((l.drop i).map Ent.t) := by
  rw [subE (l.map Ent.t) i (by simpa using h), List.map_drop]

/-! ### the order -/
theorem rahead_eq (F : Nat) (t : Int) (k : List UInt8) (t' : Int) (k' : List UInt8) : M_conciergeref15_Ahead F (t, k, t', k') = some (aheadB t k t' k') := by
  unfold M_conciergeref15_Ahead aheadB
  simp only
  cases decide (t < t') <;> cases decide (t = t') <;> simp
abbrev PlR : Type := (List En × Unit) ⊕ (Int × Bool × Unit)
theorem place_loop (l : List Ent) (hl : l.length ≤ 1000000) (t : Int) (k : List UInt8) : ∀ (m j : Nat), j + m = l.length → ∃ y : PlR, TendsL M_conciergeref15_place_l0 (l.map Ent.t, t, k, (j : Int), ()) y ∧ (y = .inl (l.map Ent.t, ()) ∨ ∃ (i : Nat) (b : Bool), i < l.length ∧ y = .inr ((i : Int), b, ()))
  | 0, j, hj => by
    refine ⟨.inl (l.map Ent.t, ()), TendsL.fin (.of fun F => ?_), .inl rfl⟩
    unfold M_conciergeref15_place_l0
    rw [if_neg (by simp; omega)]
  | m + 1, j, hj => by
    have hlt : j < l.length := by omega
    obtain ⟨e, he⟩ : ∃ e, e = l[j] := ⟨_, rfl⟩
    have hi : idx (l.map Ent.t) (j : Int) = some e.t := by rw [idxT l j _ rfl hlt, he]
    have e1 : e.t.1 = e.te := rfl
    have e2 : e.t.2.1 = e.key := rfl
    have hst : ∀ F, M_conciergeref15_place_l0 F (l.map Ent.t, t, k, (j : Int), ()) = if aheadB e.te e.key t k = true then some (.inl (l.map Ent.t, t, k, ((j + 1 : Nat) : Int), ())) else some (.inr (.inr ((j : Int), decide (e.te = t) && decide (e.key = k), ()))) := by
      intro F
      unfold M_conciergeref15_place_l0
      rw [if_pos (by simp; omega)]
      simp only [hi, Option.bind_some, rahead_eq, e1, e2, next_nat j (by omega)]
      cases aheadB e.te e.key t k
      · simp only [Bool.not_false, if_true, Option.bind_some]
        cases decide (e.te = t) <;> rfl
      · rfl
    cases ha : aheadB e.te e.key t k
    · exact ⟨_, TendsL.fin (.of fun F => by rw [hst F, ha]; rfl), .inr ⟨j, _, hlt, rfl⟩⟩
    · obtain ⟨y, hy, hz⟩ := place_loop l hl t k m (j + 1) (by omega)
      exact ⟨y, TendsL.step (.of fun F => by rw [hst F, ha]; rfl) hy, hz⟩
theorem place_tends (l : List Ent) (hl : l.length ≤ 1000000) (t : Int) (k : List UInt8) : ∃ (i : Nat) (b : Bool), Tends (fun F => M_conciergeref15_place F (l.map Ent.t, t, k)) ((i : Int), b) ∧ i ≤ l.length ∧ (b = true → i < l.length) := by
  obtain ⟨y, hy, hz⟩ := place_loop l hl t k l.length 0 (by omega)
  rcases hz with rfl | ⟨i, b, hi, rfl⟩
  · refine ⟨l.length, false, ?_, Nat.le_refl _, fun h => by cases h⟩
    unfold M_conciergeref15_place
    refine Tends.bind hy.run (.of fun F => ?_)
    show some (((l.map Ent.t).length : Int), false) = _
    rw [List.length_map]
  · refine ⟨i, b, ?_, by omega, fun _ => hi⟩
    unfold M_conciergeref15_place
    exact Tends.bind hy.run (.of fun F => rfl)
theorem put_tends (l : List Ent) (hl : l.length ≤ 1000000) (e : Ent) : ∃ l' : List Ent, Tends (fun F => M_conciergeref15_Put F (l.map Ent.t, e.t)) (l'.map Ent.t) ∧ l'.length ≤ l.length + 1 ∧ ∀ x ∈ l', x ∈ l ∨ x = e := by
  obtain ⟨i, b, hp, hi, hb⟩ := place_tends l hl e.te e.key
  have e1 : e.t.1 = e.te := rfl
  have e2 : e.t.2.1 = e.key := rfl
  refine ⟨l.take i ++ e :: l.drop (if b = true then i + 1 else i), ?_, ?_, ?_⟩
  · unfold M_conciergeref15_Put
    refine Tends.bind (r := (l.map Ent.t, (), (i : Int), b, e.t, ())) (Tends.bind (by rw [e1, e2]; exact hp) (.ret _)) ?_
    refine Tends.bind (.const (subT l i hi)) ?_
    refine Tends.pos (by simp; omega) (Tends.pos (by simp; omega) ?_)
    refine Tends.bind (r := (l.map Ent.t, ((if b = true then i + 1 else i : Nat) : Int), (), (l.take i).map Ent.t ++ [e.t], ())) (.of fun F => ?_) ?_
    · cases b
      · rfl
      · simp only [next_nat i (by omega)]
        rfl
    · have hle : (if b = true then i + 1 else i) ≤ l.length := by
        cases b
        · exact hi
        · have := hb rfl; exact this
      refine Tends.bind (.const (subD l _ hle)) (Tends.pos (by simp; omega) (.of fun F => ?_))
      simp
  · cases b
    · simp; omega
    · have := hb rfl; simp; omega
  · intro x hx
    rcases List.mem_append.1 hx with h | h
    · exact .inl (List.mem_of_mem_take h)
    · rcases List.mem_cons.1 h with h | h
      · exact .inr h
      · exact .inl (List.mem_of_mem_drop h)
theorem sorted_loop (l : List Ent) (hl : l.length ≤ 1000) : ∀ (m j : Nat) (acc : List Ent), j + m = l.length → acc.length ≤ j → (∀ x ∈ acc, x ∈ l) → ∃ l' : List Ent, TendsL M_conciergelaw19_sorted_l0 (acc.map Ent.t, l.map Ent.t, (l.length : Int), (j : Int), ()) (l'.map Ent.t, ()) ∧ l'.length ≤ l.length ∧ ∀ x ∈ l', x ∈ l
  | 0, j, acc, hj, ha, hm => by
    refine ⟨acc, TendsL.fin (.of fun F => ?_), by omega, hm⟩
    unfold M_conciergelaw19_sorted_l0
    rw [if_neg (by simp; omega)]
  | m + 1, j, acc, hj, ha, hm => by
    have hlt : j < l.length := by omega
    obtain ⟨e, he⟩ : ∃ e, e = l[j] := ⟨_, rfl⟩
    have hi : idx (l.map Ent.t) (j : Int) = some e.t := by rw [idxT l j _ rfl hlt, he]
    obtain ⟨a', hp, h1, h2⟩ := put_tends acc (by omega) e
    obtain ⟨l', q1, q2, q3⟩ := sorted_loop l hl m (j + 1) a' (by omega) (by omega) (fun x hx => (h2 x hx).elim (hm x) (fun h => by rw [h, he]; exact List.getElem_mem hlt))
    refine ⟨l', TendsL.step ?_ q1, q2, q3⟩
    unfold M_conciergelaw19_sorted_l0
    refine Tends.pos (by simp; omega) (Tends.bind (.const hi) (Tends.bind hp (.of fun F => ?_)))
    simp only [next_nat j (by omega)]
theorem sorted_tends (l : List Ent) (hl : l.length ≤ 1000) : ∃ l' : List Ent, Tends (fun F => M_conciergelaw19_sorted F (l.map Ent.t)) (l'.map Ent.t) ∧ l'.length ≤ l.length ∧ ∀ x ∈ l', x ∈ l := by
  obtain ⟨l', h1, h2, h3⟩ := sorted_loop l hl l.length 0 [] (by omega) (by simp) (fun x hx => by cases hx)
  refine ⟨l', ?_, h2, h3⟩
  unfold M_conciergelaw19_sorted
  simp only [List.length_map]
  exact Tends.bind h1.run (.ret _)

/-! ### Small -/
def smE (e : Ent) : Bool := !(decide (100 < (e.key.length : Int)) || (decide (100 < (e.pr.length : Int)) || (decide (100 < (e.tx.length : Int)) || (decide (100 < (e.me.length : Int)) || (decide (100 < (e.pa.length : Int)) || decide (100 < (e.bo.length : Int)))))))
def smL (n : Int) (l : List Ent) : Bool := !decide (n < (l.length : Int)) && l.all smE
theorem small_loop (l : List Ent) (hl : l.length ≤ 1000000000000) : ∀ (m j : Nat), j + m = l.length → TendsL M_conciergelaw19_Small_l0 (l.map Ent.t, (l.length : Int), (j : Int), ()) (bdR ((l.drop j).all smE))
  | 0, j, hj => by
    refine TendsL.fin (.of fun F => ?_)
    unfold M_conciergelaw19_Small_l0
    rw [if_neg (by simp; omega), List.drop_of_length_le (by omega)]
    rfl
  | m + 1, j, hj => by
    have hlt : j < l.length := by omega
    have hd : l.drop j = l[j] :: l.drop (j + 1) := List.drop_eq_getElem_cons hlt
    obtain ⟨e, he⟩ : ∃ e, e = l[j] := ⟨_, rfl⟩
    have hi : idx (l.map Ent.t) (j : Int) = some e.t := by rw [idxT l j _ rfl hlt, he]
    have hst : ∀ F, M_conciergelaw19_Small_l0 F (l.map Ent.t, (l.length : Int), (j : Int), ()) = if smE e = true then some (.inl (l.map Ent.t, (l.length : Int), ((j + 1 : Nat) : Int), ())) else some (.inr (.inr (false, ()))) := by
      intro F
      unfold M_conciergelaw19_Small_l0 smE
      rw [if_pos (by simp; omega)]
      simp only [hi, Option.bind_some, next_nat j (by omega)]
      simp only [show e.t.2.1 = e.key from rfl, show e.t.2.2.2.2.2.2.1 = e.pr from rfl, show e.t.2.2.2.2.2.2.2.2.2.2.1 = e.tx from rfl, show e.t.2.2.2.2.2.2.2.2.2.2.2.1 = e.me from rfl, show e.t.2.2.2.2.2.2.2.2.2.2.2.2.1 = e.pa from rfl, show e.t.2.2.2.2.2.2.2.2.2.2.2.2.2.1 = e.bo from rfl]
      cases decide (100 < (e.key.length : Int))
      case true => rfl
      simp only [if_true, Option.bind_some, eq_self_iff_true, reduceIte, Bool.false_or]
      cases decide (100 < (e.pr.length : Int))
      case true => rfl
      simp only [if_true, Option.bind_some, eq_self_iff_true, reduceIte, Bool.false_or, show e.t.2.2.2.2.2.2.2.2.2.2.1 = e.tx from rfl]
      cases decide (100 < (e.tx.length : Int))
      case true => rfl
      simp only [if_true, Option.bind_some, eq_self_iff_true, reduceIte, Bool.false_or, show e.t.2.2.2.2.2.2.2.2.2.2.2.1 = e.me from rfl]
      cases decide (100 < (e.me.length : Int))
      case true => rfl
      simp only [if_true, Option.bind_some, eq_self_iff_true, reduceIte, Bool.false_or, show e.t.2.2.2.2.2.2.2.2.2.2.2.2.1 = e.pa from rfl]
      cases decide (100 < (e.pa.length : Int))
      case true => rfl
      simp only [if_true, Option.bind_some, eq_self_iff_true, reduceIte, Bool.false_or, show e.t.2.2.2.2.2.2.2.2.2.2.2.2.2.1 = e.bo from rfl]
      cases decide (100 < (e.bo.length : Int))
      case true => rfl
      simp only [if_true, Option.bind_some, eq_self_iff_true, reduceIte, Bool.false_or, next_nat j (by omega)]
      rfl
    rw [hd, ← he, List.all_cons]
    cases hs : smE e
    · exact TendsL.fin (.of fun F => by rw [hst F, hs]; rfl)
    · rw [Bool.true_and]
      exact TendsL.step (.of fun F => by rw [hst F, hs]; rfl) (small_loop l hl m (j + 1) (by omega))
theorem small_tends (l : List Ent) (n : Int) (hn : n ≤ 1000) : Tends (fun F => M_conciergelaw19_Small F (l.map Ent.t, n)) (smL n l) := by
  unfold M_conciergelaw19_Small smL
  simp only [List.length_map]
  by_cases h : n < (l.length : Int)
  · exact Tends.pos (by simpa using h) (.of fun F => by rw [decide_eq_true h]; rfl)
  · refine Tends.neg (by simpa using h) ?_
    rw [decide_eq_false h]
    have := small_loop l (by omega) l.length 0 (by omega)
    rw [List.drop_zero] at this
    refine Tends.bind this.run (.of fun F => ?_)
    unfold bdR
    cases l.all smE <;> rfl
theorem smE_le {e : Ent} (h : smE e = true) : e.me.length ≤ 100 ∧ e.pa.length ≤ 100 ∧ e.bo.length ≤ 100 := by
  unfold smE at h
  simp only [Bool.not_eq_true', Bool.or_eq_false_iff, decide_eq_false_iff_not] at h
  obtain ⟨h1, h2, h3, h4, h5, h6⟩ := h
  omega
theorem smL_parts {n : Int} {l : List Ent} (h : smL n l = true) : (l.length : Int) ≤ n ∧ Smalls l := by
  unfold smL at h
  simp only [Bool.and_eq_true, Bool.not_eq_true', decide_eq_false_iff_not, List.all_eq_true] at h
  refine ⟨by omega, fun e he => ?_⟩
  have := smE_le (h.2 e he)
  omega
theorem Smalls.sub {l l' : List Ent} (h : Smalls l) (hs : ∀ x ∈ l', x ∈ l) : Smalls l' := fun e he => h e (hs e he)

/-! ### the document's May -/
def pbO : Option Ent → Ent → Bool
  | none, _ => true
  | some q, e => aheadE q e
theorem okG_cons' (top : Int) (p : Option Ent) (e : Ent) (r : List Ent) : okG top p (e :: r) = ((mayB e && (!decide (top < e.ep) && pbO p e)) && okG top (some e) r) := by
  rw [okG_cons]
  cases p <;> simp only [pbO, Bool.and_assoc]
theorem rsmay_loop (l : List Ent) (hl : l.length ≤ 1000000) (top : Int) : ∀ (m k : Nat), k + m = l.length → TendsL M_conciergeref19_May_l0 (l.map Ent.t, top, (k : Int), ()) (bdR (okG top (prevE l k) (l.drop k)))
  | 0, k, hk => by
    refine TendsL.fin (.of fun F => ?_)
    unfold M_conciergeref19_May_l0
    rw [if_neg (by simp; omega), List.drop_of_length_le (by omega)]
    rfl
  | m + 1, k, hk => by
    have hlt : k < l.length := by omega
    have hd : l.drop k = l[k] :: l.drop (k + 1) := List.drop_eq_getElem_cons hlt
    obtain ⟨e, he⟩ : ∃ e, e = l[k] := ⟨_, rfl⟩
    have hi : idx (l.map Ent.t) (k : Int) = some e.t := by rw [idxT l k _ rfl hlt, he]
    obtain ⟨pb, hpb⟩ : ∃ pb, pb = pbO (prevE l k) e := ⟨_, rfl⟩
    have e1 : e.t.1 = e.te := rfl
    have e2 : e.t.2.1 = e.key := rfl
    have e4 : e.t.2.2.2.1 = e.ep := rfl
    have hst : Tends (fun F => M_conciergeref19_May_l0 F (l.map Ent.t, top, (k : Int), ())) (if (mayB e && (!decide (top < e.ep) && pb)) = true then .inl (l.map Ent.t, top, ((k + 1 : Nat) : Int), ()) else .inr (.inr (false, ()))) := by
      unfold M_conciergeref19_May_l0
      refine Tends.pos (by simp; omega) ?_
      refine Tends.bind (r := (l.map Ent.t, top, (k : Int), !(mayB e && !decide (top < e.ep)), ())) (Tends.bind (.const hi) (Tends.bind (rmay_tends e) ?_)) ?_
      · cases mayB e
        · exact Tends.neg (by simp) (.ret _)
        · refine Tends.pos rfl (Tends.bind (.const hi) (.of fun F => ?_))
          simp only [e4]
          cases decide (top < e.ep) <;> rfl
      · cases hc : mayB e && !decide (top < e.ep)
        · rw [← Bool.and_assoc, hc]
          exact Tends.pos rfl (.ret _)
        · rw [← Bool.and_assoc, hc, Bool.true_and]
          refine Tends.neg (by simp) ?_
          refine Tends.bind (r := (l.map Ent.t, top, (k : Int), !pb, ())) ?_ ?_
          · cases k with
            | zero =>
              have : pb = true := hpb
              rw [this]
              exact Tends.neg (by simp) (.ret _)
            | succ j =>
              have hj : j < l.length := by omega
              have e5 : IntKind.i64.wrap (((j + 1 : Nat) : Int) - 1) = (j : Int) := by rw [wrap64] <;> omega
              have hp : pb = aheadE l[j] e := by
                rw [hpb, show prevE l (j + 1) = some l[j] from List.getElem?_eq_getElem hj]
                rfl
              rw [hp]
              have hj' : idx (l.map Ent.t) (j : Int) = some l[j].t := idxT l j _ rfl hj
              refine Tends.pos (by rw [decide_eq_true_eq]; show (0 : Int) < ((j + 1 : Nat) : Int); omega) (.of fun F => ?_)
              simp only [e5, hj', hi, Option.bind_some, rahead_eq]
              rfl
          · cases pb
            · exact Tends.pos rfl (.ret _)
            · refine Tends.neg (by simp) (.of fun F => ?_)
              simp only [next_nat k (by omega)]
              rfl
    rw [hd, ← he]
    have hG : okG top (prevE l k) (e :: l.drop (k + 1)) = ((mayB e && (!decide (top < e.ep) && pb)) && okG top (some e) (l.drop (k + 1))) := by
      rw [okG_cons', ← hpb]
    rw [hG]
    cases hb : (mayB e && (!decide (top < e.ep) && pb))
    · rw [hb] at hst
      exact TendsL.fin hst
    · rw [hb] at hst
      rw [Bool.true_and]
      have := rsmay_loop l hl top m (k + 1) (by omega)
      rw [show prevE l (k + 1) = some e from (List.getElem?_eq_getElem hlt).trans (by rw [he])] at this
      exact TendsL.step hst this
theorem rsmay_tends (l : List Ent) (hl : l.length ≤ 1000000) (top : Int) : Tends (fun F => M_conciergeref19_May F (l.map Ent.t, top)) (mayL l top) := by
  unfold M_conciergeref19_May mayL
  obtain ⟨c, hc⟩ : ∃ c, c = decide (0 ≤ top ∧ top ≤ 1073741824 ∧ l.length ≤ 200) := ⟨_, rfl⟩
  rw [← hc]
  refine Tends.bind (r := (l.map Ent.t, top, decide (top < 0 ∨ 1073741824 < top), ())) (.of fun F => ?_) ?_
  · by_cases h : top < 0
    · simp [h]
    · simp [h]
  refine Tends.bind (r := (l.map Ent.t, top, !c, ())) (.of fun F => ?_) ?_
  · by_cases h : top < 0 ∨ 1073741824 < top
    · have : c = false := by rw [hc]; exact decide_eq_false (fun q => by omega)
      rw [this, decide_eq_true h]
      rfl
    · rw [decide_eq_false h, if_pos rfl]
      have : decide (200 < ((l.map Ent.t).length : Int)) = !c := by
        rw [hc, Bool.eq_iff_iff]
        simp
        omega
      simp only [this]
  cases c
  · exact Tends.pos rfl (.ret _)
  · refine Tends.neg (by simp) (Tends.bind (r := bdR (okG top none l)) ?_ (.of fun F => ?_))
    · have := rsmay_loop l hl top l.length 0 (by omega)
      rw [List.drop_zero] at this
      exact this.run
    · unfold bdR
      cases okG top none l <;> rfl

/-! ### awake -/
def e0 : Ent := ⟨0, [107], 3, 1, 1, 0, [48, 49, 50, 51, 52, 53, 54, 55, 56, 57, 97, 98, 99, 100, 101, 102, 48, 49, 50, 51, 52, 53, 54, 55, 56, 57, 97, 98, 99, 100, 101, 102], 0, 9, 0, [], [], [], []⟩
theorem e0_may : mayL [e0] 5 = true := by kernel_rfl
theorem awake19 : Tends (fun F => M_conciergelaw19_awake F ()) true := by
  have hw := swrite_tends [e0] (by decide) (fun e he => by rw [List.mem_singleton.1 he]; decide) 5
  rw [e0_may, if_pos rfl] at hw
  have hl := snapW_len e0_may
  have hr := sread_tends (snapW [e0] 5) (by simp at hl; omega)
  rw [snapR_snapW e0_may] at hr
  unfold M_conciergelaw19_awake
  refine Tends.bind (r := (snapW [e0] 5, 0)) hw (Tends.bind hr (Tends.bind (r := (true, ())) (.of fun F => ?_) (.ret _)))
  rfl

end Go.Vm
