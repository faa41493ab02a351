import Derived.Test.YtihpjgcbmipdbaaGreatDoorPg6
import Derived.Test.YtihpjgcbmipdbaaGreatDoorPu3
import Derived.Test.YtihpjgcbmipdbaaGreatDoorPh1
import Derived.Test.YtihpjgcbmipdbaaGreatDoorPsx
import Derived.Test.YtihpjgcbmipdbaaGreatDoorFprog2
import Derived.Test.YtihpjgcbmipdbaaGreatDoorFlaw22
/- Programs: what the document parses is the plain one; small programs. No condition but on lengths. -/
namespace Go.Vm
open Go.Proofs
open Go.Lib (decDigits itoa)
set_option linter.unusedVariables false
set_option linter.unusedSimpArgs false
/-! ### words, numbers -/
end Go.Vm
/- Right texts, plainly. No condition. -/
namespace Go.Vm
open Go.Lib (decodeL decodeN decodeL_N decode_N decodeN_shape decodeL_le)
set_option linter.unusedVariables false
set_option linter.unusedSimpArgs false
end Go.Vm
/- Phrases: small entries; what is let out is right; the law of fills. No condition but on lengths. -/
namespace Go.Vm
open Go.Proofs
open Go.Lib (decodeL decodeN decodeL_N decode_N decodeN_shape decodeL_le)
set_option linter.unusedVariables false
set_option linter.unusedSimpArgs false
/-! ### small entries -/
def smallE (e : EnT) : Bool := decide (e.key.length ≤ 100) && decide (e.2.2.2.2.2.2.1.length ≤ 100) && decide (e.2.2.2.2.2.2.2.2.2.2.1.length ≤ 100) && decide (e.method.length ≤ 100) && decide (e.path.length ≤ 100) && decide (e.body.length ≤ 100)
theorem small_he (e : EnT) (h : smallE e = true) : e.key.length ≤ 1000 ∧ e.method.length ≤ 1000 ∧ e.path.length ≤ 1000 ∧ e.body.length ≤ 1000 := by
 unfold smallE at h
 simp only [Bool.and_eq_true, decide_eq_true_eq] at h
 omega
theorem small_loop (l : List (Int × EnT)) (hl : l.length ≤ 1000000) : ∀ (n i : Nat), i + n = l.length → TendsL M_conciergelaw18_Small_l0 (l, (l.length : Int), (i : Int), ()) (if (l.drop i).all (fun r => smallE r.2) = true then .inl () else .inr (false, ()))
 | 0, i, h => by
  refine TendsL.fin (.of fun F => ?_)
  unfold M_conciergelaw18_Small_l0
  rw [if_neg (by rw [decide_eq_true_eq]; simp only; omega), List.drop_eq_nil_of_le (by omega)]
  rfl
 | n + 1, i, h => by
  have hi : i < l.length := by omega
  have hx : idx l (i : Int) = some l[i] := idx_at _ _ _ (List.getElem?_eq_getElem hi)
  have hw : IntKind.i64.wrap ((i : Int) + 1) = ((i + 1 : Nat) : Int) := by rw [wrap64 _ (by omega) (by omega)]; omega
  have ih := small_loop l hl n (i + 1) (by omega)
  rw [List.drop_eq_getElem_cons hi, List.all_cons]
  generalize l[i] = m at *
  obtain ⟨k, te, key, st, ep, tok, po, pr, le, ex, sta, tx, me, pa, bo, u⟩ := m
  have body : ∀ F, M_conciergelaw18_Small_l0 F (l, (l.length : Int), (i : Int), ()) = some (if smallE (te, key, st, ep, tok, po, pr, le, ex, sta, tx, me, pa, bo, u) = true then .inl (l, (l.length : Int), ((i + 1 : Nat) : Int), ()) else .inr (.inr (false, ()))) := by
   intro F
   unfold M_conciergelaw18_Small_l0 smallE
   rw [if_pos (by rw [decide_eq_true_eq]; simp only; omega)]
   have e1 : ∀ a : By, (100 : Int) < (a.length : Int) ↔ ¬ a.length ≤ 100 := fun a => by omega
   simp only [hx, Option.bind_some, e1]
   by_cases a1 : key.length ≤ 100
   ·by_cases a2 : pr.length ≤ 100
    ·by_cases a3 : tx.length ≤ 100
     ·by_cases a4 : me.length ≤ 100
      ·by_cases a5 : pa.length ≤ 100
       ·by_cases a6 : bo.length ≤ 100
        ·simp [a1, a2, a3, a4, a5, a6, hw]
        ·simp [a1, a2, a3, a4, a5, a6, hw]
       ·simp [a1, a2, a3, a4, a5, hw]
      ·simp [a1, a2, a3, a4, hw]
     ·simp [a1, a2, a3, hw]
    ·simp [a1, a2, hw]
   ·simp [a1, hw]
  by_cases hc : smallE (te, key, st, ep, tok, po, pr, le, ex, sta, tx, me, pa, bo, u) = true
  ·rw [hc, Bool.true_and]
   exact TendsL.step (.of fun F => (body F).trans (by rw [if_pos hc])) ih
  ·have hc' : smallE (te, key, st, ep, tok, po, pr, le, ex, sta, tx, me, pa, bo, u) = false := by simpa using hc
   rw [hc', Bool.false_and]
   exact TendsL.fin (.of fun F => (body F).trans (by rw [if_neg hc]; rfl))
theorem small_t (l : List (Int × EnT)) (most : Int) (hl : l.length ≤ 1000000) : Tends (fun F => M_conciergelaw18_Small F (l, most)) (decide ((l.length : Int) ≤ most) && l.all fun r => smallE r.2) := by
 unfold M_conciergelaw18_Small
 by_cases hm : most < (l.length : Int)
 ·rw [decide_eq_false (p := (l.length : Int) ≤ most) (by omega), Bool.false_and]
  exact Tends.pos (decide_eq_true hm) (.ret _)
 rw [decide_eq_true (p := (l.length : Int) ≤ most) (by omega), Bool.true_and]
 refine Tends.neg (by rw [decide_eq_true_eq]; exact hm) ?_
 have h := small_loop l hl l.length 0 (by omega)
 rw [List.drop_zero] at h
 refine Tends.bind h.run ?_
 by_cases ha : (l.all fun r => smallE r.2) = true
 ·rw [if_pos ha, ha]; exact .ret _
 ·have ha' : (l.all fun r => smallE r.2) = false := by simpa using ha
  rw [if_neg ha, ha']; exact .ret _
/-! ### what is let out is right -/
def OutOk (a : By) : Prop := ∃ ks : List Nat, a = ks.flatMap encN ∧ ∀ k ∈ ks, okR k ∧ sortI (k : Int) ≠ 0
theorem outL_ok : ∀ (l : List Int) (acc : By), (∀ n ∈ l, ∃ c : Nat, n = (c : Int) ∧ okR c) → OutOk acc → acc.length ≤ 40 → OutOk (outL l acc) ∧ (outL l acc).length ≤ 40
 | [], acc, h, ha, hl => ⟨ha, hl⟩
 | n :: l, acc, h, ha, hl => by
  obtain ⟨c, hc, hco⟩ := h n (List.mem_cons_self ..)
  subst hc
  unfold outL
  obtain ⟨d, hd1, hd2, hd3⟩ : ∃ d : Nat, okR d ∧ (if sortI (c : Int) = 0 then [63] else encN (c : Int).toNat) = encN d ∧ sortI (d : Int) ≠ 0 := by
   by_cases h0 : sortI (c : Int) = 0
   ·exact ⟨63, by unfold okR; omega, by rw [if_pos h0]; rfl, by decide⟩
   ·exact ⟨c, hco, by rw [if_neg h0, Int.toNat_natCast], h0⟩
  rw [hd2]
  split
  ·exact ⟨ha, hl⟩
  ·rename_i h40
   refine outL_ok l _ (fun x hx => h x (List.mem_cons_of_mem _ hx)) ?_ (by rw [List.length_append]; omega)
   obtain ⟨ks, rfl, hk⟩ := ha
   refine ⟨ks ++ [d], by simp, fun k hk' => ?_⟩
   rcases List.mem_append.1 hk' with h1 | h1
   ·exact hk k h1
   ·rw [List.mem_singleton] at h1
    subst h1
    exact ⟨hd1, hd3⟩
theorem fill_out (s : By) (e : EnT) : OutOk (fillT s e) ∧ (fillT s e).length ≤ 40 := by
 unfold fillT
 have h0 : OutOk [] := ⟨[], rfl, fun k hk => by cases hk⟩
 split
 ·exact ⟨h0, Nat.zero_le _⟩
 ·split
  ·exact ⟨h0, Nat.zero_le _⟩
  ·exact outL_ok _ _ (signs_okR _) h0 (Nat.zero_le _)
end Go.Vm
/- Programs: what is to be done next, and how many calls are ahead: the program's answer and the document's are the plain one. No condition but on lengths. -/
namespace Go.Vm
open Go.Proofs
set_option linter.unusedVariables false
set_option linter.unusedSimpArgs false
/-! ### needs -/
theorem needs_t (body name : By) (n : Int) (hb : body.length ≤ 1000) : Tends (fun F => M_prog_needs F (body, name, n)) (needT body name n) := by
 unfold M_prog_needs needT
 refine Tends.bind (field_v body name hb) ?_
 have h4 := first_ok body name
 generalize firstM name (objL (vP body)) = v at h4
 obtain ⟨f, ok⟩ := v
 simp only at h4 ⊢
 refine Tends.bind (number_v f (by omega)) (.of fun F => ?_)
 cases ok with
 | false => rfl
 | true =>
  by_cases c1 : kindP (vP f) = 3
  ·by_cases c2 : 1 ≤ numV (vP f) <;> simp [c1, c2]
  ·simp [c1]
theorem sort_mem (x : Int) : decide (sortI x ∈ ([1, 2, 3] : List Int)) = decide (1 ≤ sortI x ∧ sortI x ≤ 3) := by
 rw [Bool.eq_iff_iff, decide_eq_true_eq, decide_eq_true_eq]
 simp only [List.mem_cons, List.not_mem_nil, or_false]
 omega
theorem ponly_t (s : By) (hs : s.length ≤ 100000) : Tends (fun F => M_sign_Only F (s, [1, 2, 3])) (((signs s).map (·.1)).all fun x => decide (1 ≤ sortI x ∧ sortI x ≤ 3)) := by
 have := only_tends s [1, 2, 3] (by decide)
 unfold onlyL at this
 simp only [sort_mem] at this
 exact this
theorem pass_t (F : Nat) (ok : Bool) (why : By) (h : why.length ≤ 2000) : M_prog_pass F (ok, why) = some (passD ok why) := by
 unfold M_prog_pass passD
 cases ok with
 | true => rfl
 | false =>
  show (if decide (([114, 101, 102, 117, 115, 101, 100, 32] : By).length + why.length ≤ 9223372036854775807) = true then _ else none) = _
  rw [if_pos (by rw [decide_eq_true_eq]; simp only [List.length_cons, List.length_nil]; omega)]
  rfl
/-! ### next -/
theorem next_t (p : List PhT) (e : EnT) (hl : p.length ≤ 1000000) (hb : ∀ x ∈ p, bndP x) (he : e.key.length ≤ 1000 ∧ e.method.length ≤ 1000 ∧ e.path.length ≤ 1000 ∧ e.body.length ≤ 1000) : Tends (fun F => M_prog_Next F (p, e)) (nextT p e) := by
 unfold M_prog_Next nextT
 refine Tends.bind (pmay_t p hl hb) ?_
 by_cases hm : mayG p = true
 case neg =>
  have hm' : mayG p = false := by simpa using hm
  rw [hm', if_pos rfl]
  exact Tends.pos rfl (.ret _)
 rw [hm, if_neg (show ¬ (true = false) by decide)]
 refine Tends.neg (by decide) ?_
 refine Tends.bind (r := ((p, (), (), decide (e.pt < 0 ∨ (p.length : Int) ≤ e.pt), e, zDo, ()) : List PhT × Unit × Unit × Bool × EnT × DoT × Unit)) (.of fun F => ?_) ?_
 ·show (if decide (e.pt < 0) = false then some (p, (), (), decide ((p.length : Int) ≤ e.pt), e, zDo, ()) else some (p, (), (), true, e, zDo, ())) = _
  by_cases c1 : e.pt < 0
  ·rw [if_neg (by rw [decide_eq_true c1]; decide), decide_eq_true (.inl c1)]
  ·rw [if_pos (decide_eq_false c1)]
   have : decide (e.pt < 0 ∨ (p.length : Int) ≤ e.pt) = decide ((p.length : Int) ≤ e.pt) := by rw [decide_eq_decide]; exact ⟨fun h => h.resolve_left c1, .inr⟩
   rw [this]
 by_cases hc : e.pt < 0 ∨ (p.length : Int) ≤ e.pt
 ·rw [if_pos hc]
  exact Tends.pos (decide_eq_true hc) (.ret _)
 rw [if_neg hc]
 refine Tends.neg (by rw [decide_eq_true_eq]; exact hc) ?_
 have hi : e.pt.toNat < p.length := by omega
 have hg : p[e.pt.toNat]? = some p[e.pt.toNat] := List.getElem?_eq_getElem hi
 have hx : idx p e.pt = some p[e.pt.toNat] := by
  have := idx_at p e.pt.toNat _ hg
  rwa [show ((e.pt.toNat : Nat) : Int) = e.pt by omega] at this
 obtain ⟨hbn, hbt⟩ := hb p[e.pt.toNat] (List.getElem_mem hi)
 rw [hg]
 generalize p[e.pt.toNat] = x at *
 refine Tends.bind (.of fun F => hx) ?_
 show Tends _ ((doT x e, 0) : DoT × Int)
 unfold doT
 by_cases k1 : x.1 = 1
 ·rw [if_pos k1]
  refine Tends.pos (decide_eq_true k1) ?_
  refine Tends.bind (r := (((), 0, passD (onlyT e.body x.2.2.1) wOnly, ()) : Unit × Int × DoT × Unit)) ?_ (.ret _)
  refine Tends.bind (count_tends e.body (by omega)) ?_
  unfold onlyT
  by_cases c : ((signs e.body).length : Int) ≤ x.2.2.1
  ·rw [decide_eq_true c, Bool.true_and]
   exact Tends.pos rfl (Tends.bind (ponly_t e.body (by omega)) (Tends.bind (.of fun F => pass_t F _ _ (by decide)) (.ret _)))
  ·rw [decide_eq_false c, Bool.false_and]
   exact Tends.neg (by decide) (Tends.bind (.of fun F => pass_t F _ _ (by decide)) (.ret _))
 rw [if_neg k1]
 refine Tends.neg (by rw [decide_eq_true_eq]; exact k1) ?_
 by_cases k2 : x.1 = 2
 ·rw [if_pos k2]
  refine Tends.pos (decide_eq_true k2) ?_
  refine Tends.bind (r := (((), 0, passD (needT e.body x.2.1 x.2.2.1) (wNeed ++ 32 :: x.2.1), ()) : Unit × Int × DoT × Unit)) ?_ (.ret _)
  refine Tends.bind (needs_t e.body x.2.1 x.2.2.1 (by omega)) ?_
  refine Tends.pos (by rw [decide_eq_true_eq]; simp only [List.length_cons, List.length_nil]; omega) ?_
  exact Tends.bind (.of fun F => pass_t F _ _ (by simp only [List.length_append, List.length_cons, List.length_nil]; omega)) (.ret _)
 rw [if_neg k2]
 refine Tends.neg (by rw [decide_eq_true_eq]; exact k2) ?_
 by_cases k3 : x.1 = 3
 ·rw [if_pos k3]
  refine Tends.pos (decide_eq_true k3) ?_
  refine Tends.bind (r := (((), (), zDo, (e.1, e.key, e.ep, e.pt, e.tk, x.2.1, fillT x.2.2.2.1 e, ()), ()) : Unit × Unit × DoT × (Int × By × Int × Int × Int × By × By × Unit) × Unit)) ?_ (.ret _)
  exact Tends.bind (fill_t x.2.2.2.1 e hbt he) (.ret _)
 rw [if_neg k3]
 refine Tends.neg (by rw [decide_eq_true_eq]; exact k3) ?_
 refine Tends.bind (r := (((), 0, (2, x.2.2.1, fillT x.2.2.2.1 e, 0, [], 0, 0, 0, [], [], ()), ()) : Unit × Int × DoT × Unit)) ?_ (.ret _)
 exact Tends.bind (fill_t x.2.2.2.1 e hbt he) (.ret _)
theorem calls_loop (p : List PhT) (pt : Int) (hl : p.length ≤ 1000000) : ∀ (k i : Nat), i + k = p.length → TendsL M_prog_Calls_l0 (pt, (callsN p (min i pt.toNat) : Int), p, (p.length : Int), (i : Int), ()) (callsT p pt, ())
 | 0, i, h => by
  have e : callsN p (min i pt.toNat) = callsN p pt.toNat := by
   rcases Nat.le_total i pt.toNat with c | c
   ·rw [Nat.min_eq_left c, callsN_all (show p.length ≤ pt.toNat by omega), show i = p.length by omega]
   ·rw [Nat.min_eq_right c]
  refine TendsL.fin (.of fun F => ?_)
  unfold M_prog_Calls_l0
  rw [if_neg (by rw [decide_eq_true_eq]; simp only; omega), e]
  rfl
 | k + 1, i, h => by
  have hi : i < p.length := by omega
  have hg : p[i]? = some p[i] := List.getElem?_eq_getElem hi
  have hx : idx p (i : Int) = some p[i] := idx_at _ _ _ hg
  have hw : IntKind.i64.wrap ((i : Int) + 1) = ((i + 1 : Nat) : Int) := by rw [wrap64 _ (by omega) (by omega)]; omega
  have ih := calls_loop p pt hl k (i + 1) (by omega)
  have hcl := callsN_le p (min i pt.toNat)
  refine TendsL.step (.of fun F => ?_) ih
  unfold M_prog_Calls_l0
  rw [if_pos (by rw [decide_eq_true_eq]; simp only; omega)]
  simp only [hx, Option.bind_some]
  by_cases c1 : (i : Int) < pt
  ·have m1 : min i pt.toNat = i := by omega
   have m2 : min (i + 1) pt.toNat = i + 1 := by omega
   have hcs := callsN_succ hg
   rw [m1] at hcl ⊢
   rw [m2, hcs]
   have hw2 : IntKind.i64.wrap ((callsN p i : Int) + 1) = ((callsN p i + 1 : Nat) : Int) := by rw [wrap64 _ (by omega) (by omega)]; omega
   by_cases c2 : (p[i]).1 = 3
   ·simp [c1, c2, hw, hw2]
   ·simp [c1, c2, hw]
  ·have m1 : min i pt.toNat = pt.toNat := by omega
   have m2 : min (i + 1) pt.toNat = pt.toNat := by omega
   rw [m1, m2]
   simp [c1, hw]
theorem calls_t (p : List PhT) (pt : Int) (hl : p.length ≤ 1000000) : Tends (fun F => M_prog_Calls F (p, pt)) (callsT p pt) := by
 unfold M_prog_Calls
 have h := calls_loop p pt hl p.length 0 (by omega)
 rw [Nat.zero_min] at h
 exact Tends.bind h.run (.ret _)
end Go.Vm
