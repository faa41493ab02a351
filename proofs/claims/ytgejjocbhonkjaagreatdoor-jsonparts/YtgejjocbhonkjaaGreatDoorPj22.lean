/- JSON: the law of parts. -/
import Derived.Test.YtgejjocbhonkjaaGreatDoorPj20
namespace Go.Vm
open Go.Proofs
open Go.Lib (decodeL decDigits itoa)
set_option linter.unusedVariables false
set_option linter.unusedSimpArgs false

def objL : JV → List Me
  | .obj l => l
  | _ => []
theorem names_objL (v : JV) : namesP v = (objL v).map (·.1) := by cases v <;> rfl
/-- What is right of a text's value. -/
theorem vP_ok (s : By) : vP s = .nil ∨ (okV 8 (vP s) ∧ (layP 8 (vP s)).length ≤ 400) := by
  unfold vP
  cases h : allP s with
  | error e => exact .inl rfl
  | ok v =>
    obtain ⟨o1, o2, o3⟩ := all_ok h
    exact .inr ⟨o1, Nat.le_trans o2 o3⟩
theorem obj_facts {v : JV} {l : List Me} (h : v = .nil ∨ (okV 8 v ∧ (layP 8 v).length ≤ 400)) (hv : v = .obj l) : Uni l ∧ l.length ≤ 400 ∧ ∀ m ∈ l, okV 7 m.2.1 ∧ (layP 7 m.2.1).length ≤ 400 := by
  subst hv
  rcases h with h | ⟨h1, h2⟩
  · cases h
  obtain ⟨h3, h4⟩ : Ris l ∧ ∀ m ∈ l, OkT m.1 ∧ okV 7 m.2.1 := h1
  have e : layP 8 (.obj l) = 123 :: (joinB (l.map fun m => quo m.1 ++ 58 :: layP 7 m.2.1) ++ [125]) := rfl
  rw [e] at h2
  simp only [List.length_cons, List.length_append, List.length_nil] at h2
  have hj := join_len (fun m : Me => quo m.1 ++ 58 :: layP 7 m.2.1) l (fun m _ => by unfold quo; simp)
  refine ⟨ris_uni h3, by omega, fun m hm => ⟨(h4 m hm).2, ?_⟩⟩
  have := piece (fun m : Me => quo m.1 ++ 58 :: layP 7 m.2.1) l m hm
  simp only [List.length_append, List.length_cons] at this
  omega
where
  piece {α : Type} (f : α → By) : ∀ (l : List α) (x : α), x ∈ l → (f x).length ≤ (joinB (l.map f)).length
    | [], x, h => by cases h
    | [y], x, h => by
      rw [List.mem_singleton] at h
      subst h
      exact Nat.le_refl _
    | y :: z :: l, x, h => by
      have ih := piece f (z :: l)
      rw [List.map_cons] at ih
      simp only [List.map_cons, joinB, List.length_append, List.length_cons] at ih ⊢
      rcases List.mem_cons.1 h with rfl | h
      · omega
      · have := ih x h
        omega
theorem list_facts {v : JV} {l : List JV} (h : v = .nil ∨ (okV 8 v ∧ (layP 8 v).length ≤ 400)) (hv : v = .list l) : ∀ m ∈ l, okV 7 m ∧ (layP 7 m).length ≤ 400 := by
  subst hv
  rcases h with h | ⟨h1, h2⟩
  · cases h
  have h4 : ∀ m ∈ l, okV 7 m := h1
  have e : layP 8 (.list l) = 91 :: (joinB (l.map (layP 7)) ++ [93]) := rfl
  rw [e] at h2
  simp only [List.length_cons, List.length_append, List.length_nil] at h2
  intro m hm
  have := obj_facts.piece (layP 7) l m hm
  exact ⟨h4 m hm, by omega⟩

/-! ### names -/
theorem names_loop (l : List Me) (hl : l.length ≤ 1000000) : ∀ (n i : Nat) (out : List By), i + n = l.length → out.length = i → TendsL M_json_Names_l0 ((), l, (l.length : Int), (i : Int), out, ()) ((), out ++ (l.drop i).map (·.1), ())
  | 0, i, out, h, ho => by
    refine TendsL.fin (.of fun F => ?_)
    unfold M_json_Names_l0
    rw [if_neg (by rw [decide_eq_true_eq]; simp only; omega), List.drop_eq_nil_of_le (by omega)]
    simp
  | n + 1, i, out, h, ho => by
    have hi : i < l.length := by omega
    have hx : idx l (i : Int) = some l[i] := idx_at _ _ _ (List.getElem?_eq_getElem hi)
    rw [List.drop_eq_getElem_cons hi]
    refine TendsL.step (x' := ((), l, (l.length : Int), ((i + 1 : Nat) : Int), out ++ [l[i].1], ())) ?_ ?_
    · unfold M_json_Names_l0
      refine Tends.pos (by rw [decide_eq_true_eq]; simp only; omega) ?_
      refine Tends.bind (.of fun F => hx) ?_
      refine Tends.pos (by rw [decide_eq_true_eq]; simp only [List.length_singleton]; omega) (.of fun F => ?_)
      simp only
      rw [wrap64 _ (by omega) (by omega)]
      rfl
    · have := names_loop l hl n (i + 1) (out ++ [l[i].1]) (by omega) (by simp; omega)
      rw [List.append_assoc] at this
      exact this
theorem names_v (s : By) (hs : s.length ≤ 1000) : Tends (fun F => M_json_Names F s) (namesP (vP s)) := by
  have hv := vP_ok s
  unfold M_json_Names
  refine Tends.bind (parse_v s hs) ?_
  have none : Tends (fun F => (loopM (M_json_Names_l1 F) F ((), [], 0, 0, [], ())).bind fun v7 => some v7.2.1) ([] : List By) := by
    have : TendsL M_json_Names_l1 ((), [], 0, 0, [], ()) ((), [], ()) := TendsL.fin (.of fun F => rfl)
    exact Tends.bind this.run (.ret _)
  cases hc : vP s with
  | obj l =>
    obtain ⟨h1, h2, h3⟩ := obj_facts hv hc
    refine Tends.pos rfl ?_
    refine Tends.bind (.of fun F => (rfl : (JV.obj l).obj? = some l)) ?_
    have := names_loop l (by omega) l.length 0 [] (by omega) rfl
    exact Tends.bind this.run (.ret _)
  | _ => exact Tends.neg Bool.false_ne_true none

/-! ### fields -/
def firstM (name : By) : List Me → By × Bool
  | [] => ([], false)
  | m :: l => if m.1 = name then (layP 7 m.2.1, true) else firstM name l
def lastM (name : By) : List Me → By × Bool → By × Bool
  | [], a => a
  | m :: l, a => lastM name l (if m.1 = name then (layP 7 m.2.1, true) else a)
theorem lastM_no (name : By) : ∀ (l : List Me) (a : By × Bool), (∀ m ∈ l, m.1 ≠ name) → lastM name l a = a
  | [], a, h => rfl
  | m :: l, a, h => by
    unfold lastM
    rw [if_neg (h m (List.mem_cons_self ..))]
    exact lastM_no name l a fun x hx => h x (List.mem_cons_of_mem _ hx)
theorem last_first (name : By) : ∀ l : List Me, Uni l → lastM name l ([], false) = firstM name l
  | [], h => rfl
  | m :: l, h => by
    obtain ⟨h1, h2⟩ := List.pairwise_cons.1 h
    unfold lastM firstM
    by_cases hc : m.1 = name
    · rw [if_pos hc, if_pos hc]
      exact lastM_no name l _ fun x hx hh => h1 x hx (hc.trans hh.symm)
    · rw [if_neg hc, if_neg hc]
      exact last_first name l h2
theorem first_find (name : By) : ∀ l : List Me, match l.findIdx? (fun m => m.1 == name) with
    | some i => ∃ m, l[i]? = some m ∧ firstM name l = (layP 7 m.2.1, true)
    | none => firstM name l = ([], false)
  | [] => rfl
  | m :: l => by
    have ih := first_find name l
    rw [List.findIdx?_cons]
    by_cases hc : m.1 = name
    · rw [if_pos (beq_iff_eq.2 hc)]
      exact ⟨m, rfl, by unfold firstM; rw [if_pos hc]⟩
    · rw [if_neg (by simpa using hc)]
      cases hf : l.findIdx? (fun m => m.1 == name) with
      | none =>
        rw [hf] at ih
        simp only [Option.map_none]
        unfold firstM
        rw [if_neg hc]
        exact ih
      | some i =>
        rw [hf] at ih
        obtain ⟨m', h1, h2⟩ := ih
        simp only [Option.map_some]
        refine ⟨m', by simpa using h1, ?_⟩
        unfold firstM
        rw [if_neg hc]
        exact h2
theorem field_v (s name : By) (hs : s.length ≤ 1000) : Tends (fun F => M_json_Field F (s, name)) (firstM name (objL (vP s))) := by
  have hv := vP_ok s
  unfold M_json_Field
  refine Tends.bind (parse_v s hs) ?_
  have none : Tends (fun F => (M_json_object_find F ([], name)).bind fun v5 => if decide (v5 < 0) = true then some ([], false) else (idx ([] : List Me) v5).bind fun v6 => (M_json_lay F ([], v6.2.1)).bind fun v7 => some (v7, true)) (([], false) : By × Bool) := by
    refine Tends.bind (find_t [] name (by simp)) ?_
    exact Tends.pos rfl (.ret _)
  cases hc : vP s with
  | obj l =>
    obtain ⟨h1, h2, h3⟩ := obj_facts hv hc
    refine Tends.pos rfl ?_
    refine Tends.bind (.of fun F => (rfl : (JV.obj l).obj? = some l)) ?_
    refine Tends.bind (find_t l name (by omega)) ?_
    have hff := first_find name l
    unfold findI
    cases hf : l.findIdx? (fun m => m.1 == name) with
    | none =>
      rw [hf] at hff
      refine Tends.pos (by decide) ?_
      show Tends _ (firstM name l)
      rw [hff]
      exact .ret _
    | some i =>
      rw [hf] at hff
      obtain ⟨m, q1, q2⟩ := hff
      refine Tends.neg (by show ¬ decide ((i : Int) < 0) = true; rw [decide_eq_true_eq]; omega) ?_
      refine Tends.bind (.of fun F => idx_at l i m q1) ?_
      obtain ⟨o1, o2⟩ := h3 m (List.mem_of_getElem? q1)
      show Tends _ (firstM name l)
      rw [q2]
      exact Tends.bind (lay_t 7 m.2.1 [] o1 (by simp; omega)) (.ret _)
  | _ => exact Tends.neg Bool.false_ne_true none

/-! ### items -/
def itemP (v : JV) (i : Int) : By × Bool := match v with
  | .list l => if 0 ≤ i ∧ i < (l.length : Int) then (((l.map (layP 7))[i.toNat]?).getD [], true) else ([], false)
  | _ => ([], false)
theorem item_v (s : By) (i : Int) (hs : s.length ≤ 1000) : Tends (fun F => M_json_Item F (s, i)) (itemP (vP s) i) := by
  have hv := vP_ok s
  unfold M_json_Item
  refine Tends.bind (parse_v s hs) ?_
  have none : Tends (fun F => (if decide (i < 0) = false then some (i, [], decide (0 ≤ i), ()) else some (i, [], true, ()) : Option (Int × List JV × Bool × Unit)).bind fun v5 => if v5.2.2.1 = true then some ([], false) else (idx v5.2.1 v5.1).bind fun v6 => (M_json_lay F ([], v6)).bind fun v7 => some (v7, true)) (([], false) : By × Bool) := by
    refine Tends.bind (r := ((i, [], true, ()) : Int × List JV × Bool × Unit)) ?_ (Tends.pos rfl (.ret _))
    by_cases h : i < 0
    · exact Tends.neg (by rw [decide_eq_true h]; decide) (.ret _)
    · exact Tends.pos (decide_eq_false h) (.of fun F => by rw [decide_eq_true (by omega)])
  cases hc : vP s with
  | list l =>
    have h3 := list_facts hv hc
    refine Tends.pos rfl ?_
    refine Tends.bind (.of fun F => (rfl : (JV.list l).list? = some l)) ?_
    unfold itemP
    simp only
    by_cases hin : 0 ≤ i ∧ i < (l.length : Int)
    · rw [if_pos hin]
      have hi : i.toNat < l.length := by omega
      refine Tends.bind (r := ((i, l, false, ()) : Int × List JV × Bool × Unit)) (Tends.pos (decide_eq_false (by omega)) (.of fun F => ?_)) ?_
      · have : ¬ (l.length : Int) ≤ i := by omega
        simp only [decide_eq_false this]
      refine Tends.neg Bool.false_ne_true ?_
      have hx : idx l i = some l[i.toNat] := by
        have := idx_at l i.toNat l[i.toNat] (List.getElem?_eq_getElem hi)
        rw [show ((i.toNat : Nat) : Int) = i by omega] at this
        exact this
      refine Tends.bind (.of fun F => hx) ?_
      obtain ⟨o1, o2⟩ := h3 l[i.toNat] (List.getElem_mem hi)
      refine Tends.bind (lay_t 7 l[i.toNat] [] o1 (by simp; omega)) (.of fun F => ?_)
      simp [hi]
    · rw [if_neg hin]
      refine Tends.bind (r := ((i, l, true, ()) : Int × List JV × Bool × Unit)) ?_ (Tends.pos rfl (.ret _))
      by_cases h : i < 0
      · exact Tends.neg (by rw [decide_eq_true h]; decide) (.ret _)
      · refine Tends.pos (decide_eq_false h) (.of fun F => ?_)
        have : (l.length : Int) ≤ i := by omega
        simp only [decide_eq_true this]
  | _ => exact Tends.neg Bool.false_ne_true none

/-! ### the law -/
theorem parts_loop (text name : By) (a : Int) (l : List Me) (V : V9) (hn : V.2.2.2.2.1 = l.map (·.1)) (hi : ∀ (i : Nat) (h : i < l.length), V.2.2.2.2.2.1[i]? = some (layP 7 l[i].2.1)) (hl : l.length ≤ 1000000) : ∀ (n i : Nat) (x : By × Bool), i + n = l.length →
    TendsL M_conciergelaw09_JsonParts_l0 (text, name, a, (), l.map (·.1), x.1, x.2, ((l.map (·.1)).length : Int), (i : Int), V, ()) (.inl (text, name, a, (), (lastM name (l.drop i) x).1, (lastM name (l.drop i) x).2, V, ()))
  | 0, i, x, h => by
    refine TendsL.fin (.of fun F => ?_)
    unfold M_conciergelaw09_JsonParts_l0
    rw [if_neg (by rw [decide_eq_true_eq, List.length_map]; simp only; omega), List.drop_eq_nil_of_le (by omega)]
    rfl
  | n + 1, i, x, h => by
    have hil : i < l.length := by omega
    have hx : idx (l.map (·.1)) (i : Int) = some l[i].1 := idx_at _ _ _ (by simp [hil])
    have hx2 : idx V.2.2.2.2.1 (i : Int) = some l[i].1 := by rw [hn]; exact hx
    have hx3 : idx V.2.2.2.2.2.1 (i : Int) = some (layP 7 l[i].2.1) := idx_at _ _ _ (hi i hil)
    rw [List.drop_eq_getElem_cons hil]
    have hw : IntKind.i64.wrap ((i : Int) + 1) = ((i + 1 : Nat) : Int) := by rw [wrap64 _ (by omega) (by omega)]; omega
    refine TendsL.step (x' := (text, name, a, (), l.map (·.1), (if l[i].1 = name then (layP 7 l[i].2.1, true) else x).1, (if l[i].1 = name then (layP 7 l[i].2.1, true) else x).2, ((l.map (·.1)).length : Int), ((i + 1 : Nat) : Int), V, ())) ?_ (parts_loop text name a l V hn hi hl n (i + 1) _ (by omega))
    unfold M_conciergelaw09_JsonParts_l0
    refine Tends.pos (by rw [decide_eq_true_eq, List.length_map]; simp only; omega) ?_
    refine Tends.bind (r := .inl (text, name, a, (), l.map (·.1), (if l[i].1 = name then (layP 7 l[i].2.1, true) else x).1, (if l[i].1 = name then (layP 7 l[i].2.1, true) else x).2, ((l.map (·.1)).length : Int), (i : Int), V, ())) ?_ ?_
    · refine Tends.bind (r := (text, name, a, (), l.map (·.1), x.1, x.2, (i : Int), ((l.map (·.1)).length : Int), (i : Int), false, V, ())) ?_ ?_
      · refine Tends.bind (.of fun F => hx) ?_
        refine Tends.bind (.of fun F => hx2) (.of fun F => ?_)
        rw [decide_eq_true rfl]
        rfl
      refine Tends.neg Bool.false_ne_true ?_
      refine Tends.bind (.of fun F => hx) ?_
      by_cases hc : l[i].1 = name
      · refine Tends.pos (decide_eq_true hc) ?_
        refine Tends.bind (.of fun F => hx3) (.of fun F => ?_)
        rw [if_pos hc]
      · refine Tends.neg (by rw [decide_eq_true_eq]; exact hc) (.of fun F => ?_)
        rw [if_neg hc]
    · refine .of fun F => ?_
      simp only [sumC_inl, hw]
theorem jsonParts_t (x name : By) (a : Int) : Tends (fun F => M_conciergelaw09_JsonParts F (x, name, a)) true := by
  unfold M_conciergelaw09_JsonParts
  refine Tends.bind awake9_t ?_
  refine Tends.neg (by decide) ?_
  by_cases hl : 500 < x.length ∨ 100 < name.length
  · refine Tends.bind (r := ((x, name, a, true, ()) : By × By × Int × Bool × Unit)) ?_ (Tends.pos rfl (.ret _))
    by_cases h1 : 500 < x.length
    · have h1' : (500 : Int) < (x.length : Int) := by omega
      exact Tends.neg (by rw [decide_eq_true h1']; decide) (.ret _)
    · have h1' : ¬ (500 : Int) < (x.length : Int) := by omega
      have h2' : (100 : Int) < (name.length : Int) := by have := hl.resolve_left h1; omega
      refine Tends.pos (decide_eq_false h1') (.of fun F => ?_)
      rw [decide_eq_true h2']
  have h1 : ¬ (500 : Int) < (x.length : Int) := fun h => hl (.inl (by omega))
  have h2 : ¬ (100 : Int) < (name.length : Int) := fun h => hl (.inr (by omega))
  refine Tends.bind (r := ((x, name, a, false, ()) : By × By × Int × Bool × Unit)) (Tends.pos (decide_eq_false h1) (.of fun F => by rw [decide_eq_false h2])) ?_
  refine Tends.neg Bool.false_ne_true ?_
  have hs : x.length ≤ 1000 := by omega
  have fo := of9_t x hs
  have fn := names_v x hs
  have fk := kind_t x hs
  have fl := len_v x hs
  have ff := field_v x name hs
  have fi := item_v x a hs
  have fu := number_v x hs
  have ft := text_v x hs
  obtain ⟨q1, q2, q3, q4, q5⟩ := ofP_parts x
  have hv := vP_ok x
  generalize hO : ofP x = O at *
  obtain ⟨V, e⟩ := O
  simp only at q1 q2 q3 q4 q5
  refine Tends.bind fo ?_
  refine Tends.bind fn ?_
  refine Tends.bind (r := ((x, name, a, (), namesP (vP x), false, V, ()) : By × By × Int × Unit × List By × Bool × V9 × Unit)) ?_ ?_
  · refine Tends.bind fk ?_
    refine Tends.pos (by simp [q1]) ?_
    refine Tends.bind fl ?_
    refine Tends.pos (by simp [q5]) (.of fun F => ?_)
    simp [q4]
  refine Tends.neg Bool.false_ne_true ?_
  generalize hw : vP x = v at *
  have hlen : (objL v).length ≤ 1000000 := by
    cases v with
    | obj l => have := (obj_facts hv rfl).2.1; exact Nat.le_trans this (by decide)
    | _ => exact Nat.zero_le _
  have huni : Uni (objL v) := by
    cases v with
    | obj l => exact (obj_facts hv rfl).1
    | _ => exact .nil
  have hit : ∀ (i : Nat) (h : i < (objL v).length), V.2.2.2.2.2.1[i]? = some (layP 7 (objL v)[i].2.1) := by
    intro i hi
    rw [q5]
    cases v with
    | obj l =>
      show (l.map fun m => itmP 8 m.2.1)[i]? = some (layP 7 l[i].2.1)
      have hi : i < l.length := hi
      simp [hi, itmP]
      rfl
    | _ => exact absurd hi (Nat.not_lt_zero _)
  have hlp := parts_loop x name a (objL v) V (by rw [q4]; exact names_objL v) hit hlen (objL v).length 0 ([], false) (by omega)
  rw [List.drop_zero, last_first name _ huni] at hlp
  rw [names_objL]
  refine Tends.bind hlp.run ?_
  simp only [sumC_inl]
  -- the item
  refine Tends.bind (r := ((x, name, a, (), (firstM name (objL v)).1, (firstM name (objL v)).2, [], false, (decide (kindP v = 5) && decide (0 ≤ a)), V, ()) : By × By × Int × Unit × By × Bool × By × Bool × Bool × V9 × Unit)) ?_ ?_
  · by_cases h5 : kindP v = 5
    · refine Tends.pos (by rw [decide_eq_true_eq, q1]; exact h5) (.of fun F => ?_)
      rw [decide_eq_true h5, Bool.true_and]
    · refine Tends.neg (by rw [decide_eq_true_eq, q1]; exact h5) (.of fun F => ?_)
      rw [decide_eq_false h5, Bool.false_and]
  refine Tends.bind (r := ((x, name, a, (), (firstM name (objL v)).1, (firstM name (objL v)).2, [], false, (decide (kindP v = 5) && decide (0 ≤ a) && decide (a < ((itemsP 8 v).length : Int))), V, ()) : By × By × Int × Unit × By × Bool × By × Bool × Bool × V9 × Unit)) ?_ ?_
  · by_cases h5 : (decide (kindP v = 5) && decide (0 ≤ a)) = true
    · refine Tends.pos h5 (.of fun F => ?_)
      rw [h5, Bool.true_and]
      simp only [q5]
    · refine Tends.neg h5 (.of fun F => ?_)
      have h5' : (decide (kindP v = 5) && decide (0 ≤ a)) = false := by simpa using h5
      rw [h5', Bool.false_and]
  refine Tends.bind (r := ((x, name, a, (), (firstM name (objL v)).1, (firstM name (objL v)).2, (itemP v a).1, (itemP v a).2, V, ()) : By × By × Int × Unit × By × Bool × By × Bool × V9 × Unit)) ?_ ?_
  · cases hcv : v with
    | list l =>
      rw [hcv] at q5
      have hk : decide (kindP (.list l) = 5) = true := rfl
      have hil : (itemsP 8 (.list l)).length = l.length := by simp [itemsP]
      unfold itemP
      simp only
      by_cases hin : 0 ≤ a ∧ a < (l.length : Int)
      · rw [if_pos hin]
        have hb : (decide (kindP (.list l) = 5) && decide (0 ≤ a) && decide (a < ((itemsP 8 (.list l)).length : Int))) = true := by
          rw [hk, hil, decide_eq_true hin.1, decide_eq_true hin.2]; rfl
        refine Tends.pos hb ?_
        have hi : a.toNat < l.length := by omega
        have hx : idx V.2.2.2.2.2.1 a = some (layP 7 l[a.toNat]) := by
          rw [q5]
          have := idx_at (itemsP 8 (.list l)) a.toNat (layP 7 l[a.toNat]) (by simp [itemsP, hi, itmP])
          rw [show ((a.toNat : Nat) : Int) = a by omega] at this
          exact this
        refine Tends.bind (.of fun F => hx) (.of fun F => ?_)
        simp [hi]
      · rw [if_neg hin]
        have hb : ¬ (decide (kindP (.list l) = 5) && decide (0 ≤ a) && decide (a < ((itemsP 8 (.list l)).length : Int))) = true := by
          rw [hk, hil]
          intro hh
          simp at hh
          exact hin hh
        exact Tends.neg hb (.ret _)
    | _ => exact Tends.neg (by simp [kindP]) (.ret _)
  refine Tends.bind ff ?_
  refine Tends.bind fi ?_
  refine Tends.bind fu ?_
  refine Tends.bind ft ?_
  refine .of fun F => ?_
  simp [q1, q2, q3]
theorem pure_conciergelaw09_JsonParts (x name : By) (a : Int) : ∃ F, M_conciergelaw09_JsonParts F (x, name, a) = some true := (jsonParts_t x name a).ex
end Go.Vm
