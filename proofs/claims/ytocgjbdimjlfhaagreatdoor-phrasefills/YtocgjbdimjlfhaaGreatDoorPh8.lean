import Derived.Test.YtocgjbdimjlfhaaGreatDoorPu3
import Derived.Test.YtocgjbdimjlfhaaGreatDoorPu1
import Derived.Test.YtocgjbdimjlfhaaGreatDoorPh7
/- Right texts, plainly. No condition. -/
namespace Go.Vm
open Go.Lib (decodeL decodeN decodeL_N decode_N decodeN_shape decodeL_le)
set_option linter.unusedVariables false
set_option linter.unusedSimpArgs false
def badN (l : List Int) : Bool := l.any fun n => decide (sortI n = 0)
def badR (l : List Int) : Unit ⊕ Bool × Unit := if badN l = true then .inr (false, ()) else .inl ()
theorem badR_nil : badR [] = .inl () := rfl
theorem badR_cons (n : Int) (l : List Int) : badR (n :: l) = if sortI n = 0 then .inr (false, ()) else badR l := by
 unfold badR badN
 by_cases h : sortI n = 0 <;> simp [h]
theorem refRightLoop (ns : List Int) (hn : ns.length ≤ 1000000000000) (k : Nat) (hk : k ≤ ns.length) : TendsL M_conciergeref04_Right_l0 (ns, (k : Int), ()) (badR (ns.drop k)) := by
 have main : ∀ n k, ns.length - k ≤ n → k ≤ ns.length → TendsL M_conciergeref04_Right_l0 (ns, (k : Int), ()) (badR (ns.drop k)) := by
  intro n
  induction n with
  | zero =>
   intro k hn hk
   have : k = ns.length := by omega
   subst this
   refine TendsL.fin (Tends.of fun F => ?_)
   unfold M_conciergeref04_Right_l0
   simp [badR_nil]
  | succ n ih =>
   intro k hn' hk
   by_cases hlt : k < ns.length
   ·have h : (k : Int) < (ns.length : Int) := by omega
    have hm : ns[k]? = some ns[k] := by simp [hlt]
    rw [List.drop_eq_getElem_cons hlt, badR_cons]
    by_cases h0 : sortI ns[k] = 0
    ·refine TendsL.fin (Tends.of fun F => ?_)
     unfold M_conciergeref04_Right_l0
     simp only [h, decide_true, if_true, idxAt ns k _ hm, refSort_eq, Option.bind_some, h0]
    ·rw [if_neg h0]
     refine TendsL.step (x' := (ns, ((k + 1 : Nat) : Int), ())) (Tends.of fun F => ?_) (ih _ (by omega) (by omega))
     have w : IntKind.i64.wrap ((k : Int) + 1) = ((k + 1 : Nat) : Int) := by rw [wrap64 _ (by omega) (by omega)]; rfl
     unfold M_conciergeref04_Right_l0
     simp only [h, decide_true, if_true, idxAt ns k _ hm, refSort_eq, Option.bind_some, h0, decide_false, Bool.false_eq_true, if_false, w]
   ·have : k = ns.length := by omega
    subst this
    refine TendsL.fin (Tends.of fun F => ?_)
    unfold M_conciergeref04_Right_l0
    simp [badR_nil]
 exact main _ k (Nat.le_refl _) hk
def rightB (s : List UInt8) (r : Int) : Bool := if s = [] ∨ r < (s.length : Int) then false else sumC (badR ((signs s).map (·.1))) (fun _ => true) fun v => v.1
theorem sumC_some {α β γ : Type} (x : α ⊕ β) (f : α → γ) (g : β → γ) : sumC x (fun a => some (f a)) (fun b => some (g b)) = some (sumC x f g) := by cases x <;> rfl
theorem refRight_tends (s : List UInt8) (hs : s.length ≤ 100000000000) (r : Int) : Tends (fun F => M_conciergeref04_Right F (s, r)) (rightB s r) := by
 unfold M_conciergeref04_Right rightB
 have hl := signs_len s
 by_cases h1 : s = []
 ·simp only [h1, List.length_nil, true_or, if_true]
  exact Tends.ret false
 have h1' : ¬ (s.length : Int) < 1 := by have := List.length_pos_iff.2 h1; omega
 by_cases h2 : r < (s.length : Int)
 ·simp only [h1, h1', h2, decide_true, decide_false, Bool.true_eq_false, if_false, Option.bind_some, if_true, or_true]
  exact Tends.ret false
 ·simp only [h1, h1', h2, decide_true, decide_false, Bool.false_eq_true, if_false, Option.bind_some, if_true, or_self]
  refine (signs_tends s (by omega)).bind ?_
  have := refRightLoop ((signs s).map (·.1)) (by simp; omega) 0 (by omega)
  refine this.run.bind ?_
  rw [List.drop_zero]
  exact Tends.of fun F => sumC_some _ _ _
end Go.Vm
/- Phrases: small entries; what is let out is right; the law of fills. No condition but on lengths. -/
namespace Go.Vm
open Go.Proofs
open Go.Lib (decodeL decodeN decodeL_N decode_N decodeN_shape decodeL_le)
set_option linter.unusedVariables false
set_option linter.unusedSimpArgs false
/-! ### small entries -/
def smallE (e : EnT) : Bool := decide (e.key.length ≤ 100) && decide (e.2.2.2.2.2.2.1.length ≤ 100) && decide (e.2.2.2.2.2.2.2.2.2.2.1.length ≤ 100) && decide (e.method.length ≤ 100) && decide (e.path.length ≤ 100) && decide (e.body.length ≤ 100)
theorem small_he (e : EnT) (h : smallE e = true) : e.key.length ≤ 1000 ∧ e.method.length ≤ 1000 ∧ e.path.length ≤ 1000 ∧ e.body.length ≤ 1000 := by
 unfold smallE at h
 simp only [Bool.and_eq_true, decide_eq_true_eq] at h
 omega
theorem small_loop (l : List (Int × EnT)) (hl : l.length ≤ 1000000) : ∀ (n i : Nat), i + n = l.length → TendsL M_conciergelaw18_Small_l0 (l, (l.length : Int), (i : Int), ()) (if (l.drop i).all (fun r => smallE r.2) = true then .inl () else .inr (false, ()))
 | 0, i, h => by
  refine TendsL.fin (.of fun F => ?_)
  unfold M_conciergelaw18_Small_l0
  rw [if_neg (by rw [decide_eq_true_eq]; simp only; omega), List.drop_eq_nil_of_le (by omega)]
  rfl
 | n + 1, i, h => by
  have hi : i < l.length := by omega
  have hx : idx l (i : Int) = some l[i] := idx_at _ _ _ (List.getElem?_eq_getElem hi)
  have hw : IntKind.i64.wrap ((i : Int) + 1) = ((i + 1 : Nat) : Int) := by rw [wrap64 _ (by omega) (by omega)]; omega
  have ih := small_loop l hl n (i + 1) (by omega)
  rw [List.drop_eq_getElem_cons hi, List.all_cons]
  generalize l[i] = m at *
  obtain ⟨k, te, key, st, ep, tok, po, pr, le, ex, sta, tx, me, pa, bo, u⟩ := m
  have body : ∀ F, M_conciergelaw18_Small_l0 F (l, (l.length : Int), (i : Int), ()) = some (if smallE (te, key, st, ep, tok, po, pr, le, ex, sta, tx, me, pa, bo, u) = true then .inl (l, (l.length : Int), ((i + 1 : Nat) : Int), ()) else .inr (.inr (false, ()))) := by
   intro F
   unfold M_conciergelaw18_Small_l0 smallE
   rw [if_pos (by rw [decide_eq_true_eq]; simp only; omega)]
   have e1 : ∀ a : By, (100 : Int) < (a.length : Int) ↔ ¬ a.length ≤ 100 := fun a => by omega
   simp only [hx, Option.bind_some, e1]
   by_cases a1 : key.length ≤ 100
   ·by_cases a2 : pr.length ≤ 100
    ·by_cases a3 : tx.length ≤ 100
     ·by_cases a4 : me.length ≤ 100
      ·by_cases a5 : pa.length ≤ 100
       ·by_cases a6 : bo.length ≤ 100
        ·simp [a1, a2, a3, a4, a5, a6, hw]
        ·simp [a1, a2, a3, a4, a5, a6, hw]
       ·simp [a1, a2, a3, a4, a5, hw]
      ·simp [a1, a2, a3, a4, hw]
     ·simp [a1, a2, a3, hw]
    ·simp [a1, a2, hw]
   ·simp [a1, hw]
  by_cases hc : smallE (te, key, st, ep, tok, po, pr, le, ex, sta, tx, me, pa, bo, u) = true
  ·rw [hc, Bool.true_and]
   exact TendsL.step (.of fun F => (body F).trans (by rw [if_pos hc])) ih
  ·have hc' : smallE (te, key, st, ep, tok, po, pr, le, ex, sta, tx, me, pa, bo, u) = false := by simpa using hc
   rw [hc', Bool.false_and]
   exact TendsL.fin (.of fun F => (body F).trans (by rw [if_neg hc]; rfl))
theorem small_t (l : List (Int × EnT)) (most : Int) (hl : l.length ≤ 1000000) : Tends (fun F => M_conciergelaw18_Small F (l, most)) (decide ((l.length : Int) ≤ most) && l.all fun r => smallE r.2) := by
 unfold M_conciergelaw18_Small
 by_cases hm : most < (l.length : Int)
 ·rw [decide_eq_false (p := (l.length : Int) ≤ most) (by omega), Bool.false_and]
  exact Tends.pos (decide_eq_true hm) (.ret _)
 rw [decide_eq_true (p := (l.length : Int) ≤ most) (by omega), Bool.true_and]
 refine Tends.neg (by rw [decide_eq_true_eq]; exact hm) ?_
 have h := small_loop l hl l.length 0 (by omega)
 rw [List.drop_zero] at h
 refine Tends.bind h.run ?_
 by_cases ha : (l.all fun r => smallE r.2) = true
 ·rw [if_pos ha, ha]; exact .ret _
 ·have ha' : (l.all fun r => smallE r.2) = false := by simpa using ha
  rw [if_neg ha, ha']; exact .ret _
/-! ### what is let out is right -/
def OutOk (a : By) : Prop := ∃ ks : List Nat, a = ks.flatMap encN ∧ ∀ k ∈ ks, okR k ∧ sortI (k : Int) ≠ 0
theorem signs_flat : ∀ ks : List Nat, (∀ k ∈ ks, okR k) → (signs (ks.flatMap encN)).map (·.1) = ks.map fun (k : Nat) => (k : Int)
 | [], h => by rw [List.flatMap_nil, signs_nil]; rfl
 | k :: ks, h => by
  have hk := h k (List.mem_cons_self ..)
  have hd := dec_encN k hk (ks.flatMap encN)
  have hne : encN k ++ ks.flatMap encN ≠ [] := fun hh => encN_ne k (List.append_eq_nil_iff.1 hh).1
  rw [List.flatMap_cons, signs_cons hne, hd, List.map_cons, List.map_cons]
  simp only [List.drop_left]
  rw [signs_flat ks fun x hx => h x (List.mem_cons_of_mem _ hx)]
theorem outL_ok : ∀ (l : List Int) (acc : By), (∀ n ∈ l, ∃ c : Nat, n = (c : Int) ∧ okR c) → OutOk acc → acc.length ≤ 40 → OutOk (outL l acc) ∧ (outL l acc).length ≤ 40
 | [], acc, h, ha, hl => ⟨ha, hl⟩
 | n :: l, acc, h, ha, hl => by
  obtain ⟨c, hc, hco⟩ := h n (List.mem_cons_self ..)
  subst hc
  unfold outL
  obtain ⟨d, hd1, hd2, hd3⟩ : ∃ d : Nat, okR d ∧ (if sortI (c : Int) = 0 then [63] else encN (c : Int).toNat) = encN d ∧ sortI (d : Int) ≠ 0 := by
   by_cases h0 : sortI (c : Int) = 0
   ·exact ⟨63, by unfold okR; omega, by rw [if_pos h0]; rfl, by decide⟩
   ·exact ⟨c, hco, by rw [if_neg h0, Int.toNat_natCast], h0⟩
  rw [hd2]
  split
  ·exact ⟨ha, hl⟩
  ·rename_i h40
   refine outL_ok l _ (fun x hx => h x (List.mem_cons_of_mem _ hx)) ?_ (by rw [List.length_append]; omega)
   obtain ⟨ks, rfl, hk⟩ := ha
   refine ⟨ks ++ [d], by simp, fun k hk' => ?_⟩
   rcases List.mem_append.1 hk' with h1 | h1
   ·exact hk k h1
   ·rw [List.mem_singleton] at h1
    subst h1
    exact ⟨hd1, hd3⟩
theorem right_of (s : By) (r : Int) (h0 : s ≠ []) (hr : (s.length : Int) ≤ r) (h : allS s = true) : rightB s r = true := by
 unfold rightB
 rw [if_neg (by rintro (h | h); exact h0 h; omega)]
 have : badN ((signs s).map (·.1)) = false := by
  rw [allS_map] at h
  unfold badN
  rw [List.any_eq_false]
  intro n hn
  have := List.all_eq_true.1 h n hn
  simpa using this
 unfold badR
 rw [this]
 rfl
theorem fill_out (s : By) (e : EnT) : OutOk (fillT s e) ∧ (fillT s e).length ≤ 40 := by
 unfold fillT
 have h0 : OutOk [] := ⟨[], rfl, fun k hk => by cases hk⟩
 split
 ·exact ⟨h0, Nat.zero_le _⟩
 ·split
  ·exact ⟨h0, Nat.zero_le _⟩
  ·exact outL_ok _ _ (signs_okR _) h0 (Nat.zero_le _)
theorem fill_right (s : By) (e : EnT) (h0 : fillT s e ≠ []) : rightB (fillT s e) 40 = true := by
 obtain ⟨⟨ks, h1, h2⟩, h3⟩ := fill_out s e
 refine right_of _ _ h0 (by omega) ?_
 rw [allS_map, h1, signs_flat ks fun k hk => (h2 k hk).1, List.all_eq_true]
 intro n hn
 obtain ⟨k, hk, rfl⟩ := List.mem_map.1 hn
 exact decide_eq_true (h2 k hk).2
theorem phraseFills_t (s : By) (e : EnT) : Tends (fun F => M_conciergelaw22_PhraseFills F (s, e)) true := by
 unfold M_conciergelaw22_PhraseFills
 refine Tends.bind awake22_t ?_
 refine Tends.neg (by decide) ?_
 by_cases h5 : 100 < s.length
 ·refine Tends.bind (r := ((s, (), true, e, ()) : By × Unit × Bool × EnT × Unit)) (Tends.neg (by rw [decide_eq_true (by simp only; omega)]; decide) (.ret _)) ?_
  exact Tends.pos rfl (.ret _)
 refine Tends.bind (r := ((s, (), !smallE e, e, ()) : By × Unit × Bool × EnT × Unit)) (Tends.pos (decide_eq_false (by simp only; omega)) (Tends.bind (small_t [(0, e)] 1 (Nat.le_of_ble_eq_true rfl)) (.of fun F => by simp))) ?_
 by_cases hsm : smallE e = true
 case neg => exact Tends.pos (by simpa using hsm) (.ret _)
 refine Tends.neg (by simp [hsm]) ?_
 have he := small_he e hsm
 refine Tends.bind (fill_t s e (by omega) he) ?_
 refine Tends.bind (r := ((true, ()) : Bool × Unit)) (Tends.bind (fill22_t s e (by omega) he) ?_) (.ret _)
 refine Tends.pos (decide_eq_true rfl) ?_
 by_cases h0 : fillT s e = []
 ·exact Tends.neg (by rw [decide_eq_true h0]; decide) (.ret _)
 refine Tends.pos (decide_eq_false h0) ?_
 have hfo := (fill_out s e).2
 refine Tends.bind (refRight_tends (fillT s e) (by omega) 40) ?_
 rw [fill_right s e h0]
 exact .ret _
theorem pure_conciergelaw22_PhraseFills (s : By) (e : EnT) : ∃ F, M_conciergelaw22_PhraseFills F (s, e) = some true := (phraseFills_t s e).ex
end Go.Vm
