import Derived.Test.YtihpjgcbmipdbaaGreatDoorPjob1
import Derived.Test.YtihpjgcbmipdbaaGreatDoorPsx
import Derived.Test.YtihpjgcbmipdbaaGreatDoorPh8
import Derived.Test.YtihpjgcbmipdbaaGreatDoorFprog2
import Derived.Test.YtihpjgcbmipdbaaGreatDoorFlaw22
import Derived.Test.YtihpjgcbmipdbaaGreatDoorFjob
/- Programs: what is to be done next, and how many calls are ahead: the program's answer and the document's are the plain one. No condition but on lengths. -/
namespace Go.Vm
open Go.Proofs
set_option linter.unusedVariables false
set_option linter.unusedSimpArgs false
/-! ### needs -/
theorem needs_t (body name : By) (n : Int) (hb : body.length ≤ 1000) : Tends (fun F => M_prog_needs F (body, name, n)) (needT body name n) := by
 unfold M_prog_needs needT
 refine Tends.bind (field_v body name hb) ?_
 have h4 := first_ok body name
 generalize firstM name (objL (vP body)) = v at h4
 obtain ⟨f, ok⟩ := v
 simp only at h4 ⊢
 refine Tends.bind (number_v f (by omega)) (.of fun F => ?_)
 cases ok with
 | false => rfl
 | true =>
  by_cases c1 : kindP (vP f) = 3
  ·by_cases c2 : 1 ≤ numV (vP f) <;> simp [c1, c2]
  ·simp [c1]
theorem sort_mem (x : Int) : decide (sortI x ∈ ([1, 2, 3] : List Int)) = decide (1 ≤ sortI x ∧ sortI x ≤ 3) := by
 rw [Bool.eq_iff_iff, decide_eq_true_eq, decide_eq_true_eq]
 simp only [List.mem_cons, List.not_mem_nil, or_false]
 omega
theorem ponly_t (s : By) (hs : s.length ≤ 100000) : Tends (fun F => M_sign_Only F (s, [1, 2, 3])) (((signs s).map (·.1)).all fun x => decide (1 ≤ sortI x ∧ sortI x ≤ 3)) := by
 have := only_tends s [1, 2, 3] (by decide)
 unfold onlyL at this
 simp only [sort_mem] at this
 exact this
theorem pass_t (F : Nat) (ok : Bool) (why : By) (h : why.length ≤ 2000) : M_prog_pass F (ok, why) = some (passD ok why) := by
 unfold M_prog_pass passD
 cases ok with
 | true => rfl
 | false =>
  show (if decide (([114, 101, 102, 117, 115, 101, 100, 32] : By).length + why.length ≤ 9223372036854775807) = true then _ else none) = _
  rw [if_pos (by rw [decide_eq_true_eq]; simp only [List.length_cons, List.length_nil]; omega)]
  rfl
/-! ### next -/
theorem next_t (p : List PhT) (e : EnT) (hl : p.length ≤ 1000000) (hb : ∀ x ∈ p, bndP x) (he : e.key.length ≤ 1000 ∧ e.method.length ≤ 1000 ∧ e.path.length ≤ 1000 ∧ e.body.length ≤ 1000) : Tends (fun F => M_prog_Next F (p, e)) (nextT p e) := by
 unfold M_prog_Next nextT
 refine Tends.bind (pmay_t p hl hb) ?_
 by_cases hm : mayG p = true
 case neg =>
  have hm' : mayG p = false := by simpa using hm
  rw [hm', if_pos rfl]
  exact Tends.pos rfl (.ret _)
 rw [hm, if_neg (show ¬ (true = false) by decide)]
 refine Tends.neg (by decide) ?_
 refine Tends.bind (r := ((p, (), (), decide (e.pt < 0 ∨ (p.length : Int) ≤ e.pt), e, zDo, ()) : List PhT × Unit × Unit × Bool × EnT × DoT × Unit)) (.of fun F => ?_) ?_
 ·show (if decide (e.pt < 0) = false then some (p, (), (), decide ((p.length : Int) ≤ e.pt), e, zDo, ()) else some (p, (), (), true, e, zDo, ())) = _
  by_cases c1 : e.pt < 0
  ·rw [if_neg (by rw [decide_eq_true c1]; decide), decide_eq_true (.inl c1)]
  ·rw [if_pos (decide_eq_false c1)]
   have : decide (e.pt < 0 ∨ (p.length : Int) ≤ e.pt) = decide ((p.length : Int) ≤ e.pt) := by rw [decide_eq_decide]; exact ⟨fun h => h.resolve_left c1, .inr⟩
   rw [this]
 by_cases hc : e.pt < 0 ∨ (p.length : Int) ≤ e.pt
 ·rw [if_pos hc]
  exact Tends.pos (decide_eq_true hc) (.ret _)
 rw [if_neg hc]
 refine Tends.neg (by rw [decide_eq_true_eq]; exact hc) ?_
 have hi : e.pt.toNat < p.length := by omega
 have hg : p[e.pt.toNat]? = some p[e.pt.toNat] := List.getElem?_eq_getElem hi
 have hx : idx p e.pt = some p[e.pt.toNat] := by
  have := idx_at p e.pt.toNat _ hg
  rwa [show ((e.pt.toNat : Nat) : Int) = e.pt by omega] at this
 obtain ⟨hbn, hbt⟩ := hb p[e.pt.toNat] (List.getElem_mem hi)
 rw [hg]
 generalize p[e.pt.toNat] = x at *
 refine Tends.bind (.of fun F => hx) ?_
 show Tends _ ((doT x e, 0) : DoT × Int)
 unfold doT
 by_cases k1 : x.1 = 1
 ·rw [if_pos k1]
  refine Tends.pos (decide_eq_true k1) ?_
  refine Tends.bind (r := (((), 0, passD (onlyT e.body x.2.2.1) wOnly, ()) : Unit × Int × DoT × Unit)) ?_ (.ret _)
  refine Tends.bind (count_tends e.body (by omega)) ?_
  unfold onlyT
  by_cases c : ((signs e.body).length : Int) ≤ x.2.2.1
  ·rw [decide_eq_true c, Bool.true_and]
   exact Tends.pos rfl (Tends.bind (ponly_t e.body (by omega)) (Tends.bind (.of fun F => pass_t F _ _ (by decide)) (.ret _)))
  ·rw [decide_eq_false c, Bool.false_and]
   exact Tends.neg (by decide) (Tends.bind (.of fun F => pass_t F _ _ (by decide)) (.ret _))
 rw [if_neg k1]
 refine Tends.neg (by rw [decide_eq_true_eq]; exact k1) ?_
 by_cases k2 : x.1 = 2
 ·rw [if_pos k2]
  refine Tends.pos (decide_eq_true k2) ?_
  refine Tends.bind (r := (((), 0, passD (needT e.body x.2.1 x.2.2.1) (wNeed ++ 32 :: x.2.1), ()) : Unit × Int × DoT × Unit)) ?_ (.ret _)
  refine Tends.bind (needs_t e.body x.2.1 x.2.2.1 (by omega)) ?_
  refine Tends.pos (by rw [decide_eq_true_eq]; simp only [List.length_cons, List.length_nil]; omega) ?_
  exact Tends.bind (.of fun F => pass_t F _ _ (by simp only [List.length_append, List.length_cons, List.length_nil]; omega)) (.ret _)
 rw [if_neg k2]
 refine Tends.neg (by rw [decide_eq_true_eq]; exact k2) ?_
 by_cases k3 : x.1 = 3
 ·rw [if_pos k3]
  refine Tends.pos (decide_eq_true k3) ?_
  refine Tends.bind (r := (((), (), zDo, (e.1, e.key, e.ep, e.pt, e.tk, x.2.1, fillT x.2.2.2.1 e, ()), ()) : Unit × Unit × DoT × (Int × By × Int × Int × Int × By × By × Unit) × Unit)) ?_ (.ret _)
  exact Tends.bind (fill_t x.2.2.2.1 e hbt he) (.ret _)
 rw [if_neg k3]
 refine Tends.neg (by rw [decide_eq_true_eq]; exact k3) ?_
 refine Tends.bind (r := (((), 0, (2, x.2.2.1, fillT x.2.2.2.1 e, 0, [], 0, 0, 0, [], [], ()), ()) : Unit × Int × DoT × Unit)) ?_ (.ret _)
 exact Tends.bind (fill_t x.2.2.2.1 e hbt he) (.ret _)
theorem calls_loop (p : List PhT) (pt : Int) (hl : p.length ≤ 1000000) : ∀ (k i : Nat), i + k = p.length → TendsL M_prog_Calls_l0 (pt, (callsN p (min i pt.toNat) : Int), p, (p.length : Int), (i : Int), ()) (callsT p pt, ())
 | 0, i, h => by
  have e : callsN p (min i pt.toNat) = callsN p pt.toNat := by
   rcases Nat.le_total i pt.toNat with c | c
   ·rw [Nat.min_eq_left c, callsN_all (show p.length ≤ pt.toNat by omega), show i = p.length by omega]
   ·rw [Nat.min_eq_right c]
  refine TendsL.fin (.of fun F => ?_)
  unfold M_prog_Calls_l0
  rw [if_neg (by rw [decide_eq_true_eq]; simp only; omega), e]
  rfl
 | k + 1, i, h => by
  have hi : i < p.length := by omega
  have hg : p[i]? = some p[i] := List.getElem?_eq_getElem hi
  have hx : idx p (i : Int) = some p[i] := idx_at _ _ _ hg
  have hw : IntKind.i64.wrap ((i : Int) + 1) = ((i + 1 : Nat) : Int) := by rw [wrap64 _ (by omega) (by omega)]; omega
  have ih := calls_loop p pt hl k (i + 1) (by omega)
  have hcl := callsN_le p (min i pt.toNat)
  refine TendsL.step (.of fun F => ?_) ih
  unfold M_prog_Calls_l0
  rw [if_pos (by rw [decide_eq_true_eq]; simp only; omega)]
  simp only [hx, Option.bind_some]
  by_cases c1 : (i : Int) < pt
  ·have m1 : min i pt.toNat = i := by omega
   have m2 : min (i + 1) pt.toNat = i + 1 := by omega
   have hcs := callsN_succ hg
   rw [m1] at hcl ⊢
   rw [m2, hcs]
   have hw2 : IntKind.i64.wrap ((callsN p i : Int) + 1) = ((callsN p i + 1 : Nat) : Int) := by rw [wrap64 _ (by omega) (by omega)]; omega
   by_cases c2 : (p[i]).1 = 3
   ·simp [c1, c2, hw, hw2]
   ·simp [c1, c2, hw]
  ·have m1 : min i pt.toNat = pt.toNat := by omega
   have m2 : min (i + 1) pt.toNat = pt.toNat := by omega
   rw [m1, m2]
   simp [c1, hw]
theorem calls_t (p : List PhT) (pt : Int) (hl : p.length ≤ 1000000) : Tends (fun F => M_prog_Calls F (p, pt)) (callsT p pt) := by
 unfold M_prog_Calls
 have h := calls_loop p pt hl p.length 0 (by omega)
 rw [Nat.zero_min] at h
 exact Tends.bind h.run (.ret _)
theorem rcalls_loop (p : List PhT) (pt : Int) (hl : p.length ≤ 1000000) : ∀ (k i : Nat), i + k = p.length → i ≤ pt.toNat → TendsL M_conciergeref23_Calls_l0 (p, pt, (callsN p i : Int), (i : Int), ()) (callsT p pt, ())
 | 0, i, h, hp => by
  refine TendsL.fin (.of fun F => ?_)
  unfold M_conciergeref23_Calls_l0
  have e : callsN p i = callsN p pt.toNat := by rw [callsN_all (show p.length ≤ pt.toNat by omega), show i = p.length by omega]
  rw [if_neg (by rw [decide_eq_true_eq]; simp only; omega), e]
  rfl
 | k + 1, i, h, hp => by
  have hi : i < p.length := by omega
  have hg : p[i]? = some p[i] := List.getElem?_eq_getElem hi
  have hx : idx p (i : Int) = some p[i] := idx_at _ _ _ hg
  have hw : IntKind.i64.wrap ((i : Int) + 1) = ((i + 1 : Nat) : Int) := by rw [wrap64 _ (by omega) (by omega)]; omega
  have hcl := callsN_le p i
  have hw2 : IntKind.i64.wrap ((callsN p i : Int) + 1) = ((callsN p i + 1 : Nat) : Int) := by rw [wrap64 _ (by omega) (by omega)]; omega
  by_cases c1 : (i : Int) < pt
  ·have ih := rcalls_loop p pt hl k (i + 1) (by omega) (by omega)
   rw [callsN_succ hg] at ih
   refine TendsL.step (.of fun F => ?_) ih
   unfold M_conciergeref23_Calls_l0
   rw [if_pos (by rw [decide_eq_true_eq]; simp only; omega)]
   simp only [hx, Option.bind_some, c1, decide_true, if_true]
   by_cases c2 : (p[i]).1 = 3
   ·simp [c2, hw, hw2]
   ·simp [c2, hw]
  ·refine TendsL.fin (.of fun F => ?_)
   unfold M_conciergeref23_Calls_l0
   rw [if_pos (by rw [decide_eq_true_eq]; simp only; omega)]
   simp only [Option.bind_some, c1, decide_false, Bool.false_eq_true, if_false]
   have : pt.toNat = i := by omega
   unfold callsT
   rw [this]
theorem rcalls_t (p : List PhT) (pt : Int) (hl : p.length ≤ 1000000) : Tends (fun F => M_conciergeref23_Calls F (p, pt)) (callsT p pt) := by
 unfold M_conciergeref23_Calls
 have h := rcalls_loop p pt hl p.length 0 (by omega) (Nat.zero_le _)
 exact Tends.bind h.run (.ret _)
end Go.Vm
/- Jobs: the program's answer and the document's are the plain one. No condition but on lengths. -/
namespace Go.Vm
open Go.Proofs
set_option linter.unusedVariables false
set_option linter.unusedSimpArgs false
theorem owns_eq (F : Nat) (j : JbT) (e : Ent) (now : Int) : M_job_Owns F (j, e.t, now) = some (ownsB j e now) := by
 unfold M_job_Owns
 show _ = some ((decide (j.2.2.1 = e.t.1) && (decide (j.2.2.2.1 = e.t.2.1) && (decide (j.2.2.2.2.1 = e.t.2.2.2.1) && decide (j.2.2.2.2.2.1 = e.t.2.2.2.2.1)))) && heldB e now)
 by_cases h1 : j.2.2.1 = e.t.1 <;> by_cases h2 : j.2.2.2.1 = e.t.2.1 <;> by_cases h3 : j.2.2.2.2.1 = e.t.2.2.2.1 <;> by_cases h4 : j.2.2.2.2.2.1 = e.t.2.2.2.2.1 <;> simp [h1, h2, h3, h4, held_eq]
theorem mine_eq (F : Nat) (j : JbT) (r : RpT) : M_job_Mine F (j, r) = some (mineB j r) := by
 unfold M_job_Mine
 show _ = some (j.2.2.2.2.2.2.1 && (decide (j.2.2.1 = r.1) && (decide (j.2.2.2.1 = r.2.1) && (decide (j.2.2.2.2.1 = r.2.2.1) && (decide (j.2.2.2.2.2.2.2.1 = r.2.2.2.1) && decide (j.2.2.2.2.2.1 = r.2.2.2.2.1))))))
 have c : ∀ {a b : Int}, decide (a = b) = decide (b = a) := fun {a b} => by rw [decide_eq_decide]; exact eq_comm
 have c2 : ∀ {a b : By}, decide (a = b) = decide (b = a) := fun {a b} => by rw [decide_eq_decide]; exact eq_comm
 rw [c (a := j.2.2.1), c2 (a := j.2.2.2.1), c (a := j.2.2.2.2.1), c (a := j.2.2.2.2.2.2.2.1), c (a := j.2.2.2.2.2.1)]
 cases h : j.2.2.2.2.2.2.1 with
 | true => simp [h]
 | false => simp [h]
theorem put_eq (F : Nat) (j : JbT) (k : Int) (x : Ent × Int) (a : AnT) : M_job_put F (j, k, x.1.t, x.2, a) = some (putP j k x a) := by
 unfold M_job_put putP
 by_cases h : x.2 = 0
 ·rw [if_pos h]
  exact (if_neg (by simp [h])).trans rfl
 ·rw [if_neg h]
  exact (if_pos (by simp [h])).trans rfl
def smallT (e : Ent) : Prop := e.me.length ≤ 1000 ∧ e.pa.length ≤ 1000 ∧ e.bo.length ≤ 1000 ∧ e.key.length ≤ 1000
theorem may_s (e : Ent) (h : smallT e) : Tends (fun F => M_entry_May F e.t) (mayB e) := may_tends e (by have := h.1; omega) (by have := h.2.1; omega) (by have := h.2.2.1; omega)
theorem pass_t' (e : Ent) (tok now : Int) (c : CfT) (h : smallT e) : Tends (fun F => M_lease_Pass F (e.t, tok, now, c)) ((passE e tok now c).1.t, (passE e tok now c).2) := by
 obtain ⟨N, hN⟩ := may_s e h
 exact ⟨N, fun F hF => pass_eq F e tok now c (hN F hF)⟩
theorem finish_t (e : Ent) (tok status : Int) (text : List UInt8) (now : Int) (c : CfT) (h : smallT e) : Tends (fun F => M_lease_Finish F (e.t, tok, status, text, now, c)) ((finE e tok status text now c).1.t, (finE e tok status text now c).2) := by
 obtain ⟨N, hN⟩ := may_s e h
 obtain ⟨N', hN'⟩ := may_tends (doneE e status text now c) (Nat.zero_le _) (Nat.zero_le _) (Nat.zero_le _)
 exact ⟨max N N', fun F hF => finish_eq F e tok status text now c (hN F (by omega)) (hN' F (by omega))⟩
theorem fail_t (e : Ent) (tok : Int) (h : smallT e) : Tends (fun F => M_lease_Fail F (e.t, tok)) ((failE e tok).1.t, (failE e tok).2) := by
 obtain ⟨N, hN⟩ := may_s e h
 exact ⟨N, fun F hF => lfail_eq F e tok (hN F hF)⟩
theorem release_t (e : Ent) (tok now : Int) (h : smallT e) : Tends (fun F => M_lease_Release F (e.t, tok, now)) ((relE e tok now).1.t, (relE e tok now).2) := by
 obtain ⟨N, hN⟩ := may_s e h
 exact ⟨N, fun F hF => release_eq F e tok now (hN F hF)⟩
theorem step_t (j : JbT) (e : Ent) (p : List PhT) (now : Int) (c : CfT) (h : smallT e) (hl : p.length ≤ 1000000) (hb : ∀ x ∈ p, bndP x) : Tends (fun F => M_job_Step F (j, e.t, p, now, c)) (stepP j e p now c) := by
 unfold M_job_Step stepP
 refine Tends.bind (.of fun F => owns_eq F j e now) ?_
 cases ho : ownsB j e now with
 | false => exact Tends.pos rfl (.of fun F => rfl)
 | true =>
  rw [if_neg (show ¬ (true = false) by decide)]
  refine Tends.neg (by decide) ?_
  by_cases hw : j.wa = true
  ·rw [if_pos hw]; exact Tends.pos hw (.of fun F => rfl)
  rw [if_neg hw]
  refine Tends.neg hw ?_
  refine Tends.bind (next_t p e.t hl hb ⟨h.2.2.2, h.1, h.2.1, h.2.2.1⟩) ?_
  generalize nextT p e.t = d
  by_cases hk : d.2 = 0
  case neg => rw [if_pos hk]; exact Tends.pos (by simp [hk]) (.of fun F => rfl)
  rw [if_neg (by simp [hk])]
  refine Tends.neg (by simp [hk]) ?_
  by_cases k3 : d.1.1 = 3
  ·rw [if_pos k3]; exact Tends.pos (decide_eq_true k3) (.of fun F => rfl)
  rw [if_neg k3]
  refine Tends.neg (by rw [decide_eq_true_eq]; exact k3) ?_
  by_cases k1 : d.1.1 = 1
  ·rw [if_pos k1]
   refine Tends.pos (decide_eq_true k1) (Tends.bind (Tends.bind (pass_t' e j.to now c h) (.ret _)) ?_)
   exact Tends.bind (.of fun F => put_eq F j 3 (passE e j.to now c) zAn) (.ret _)
  ·rw [if_neg k1]
   refine Tends.neg (by rw [decide_eq_true_eq]; exact k1) (Tends.bind (Tends.bind (finish_t e j.to d.1.2.1 d.1.2.2.1 now c h) (.ret _)) ?_)
   refine Tends.bind (.of fun F => rfl) ?_
   exact Tends.bind (.of fun F => put_eq F j 4 (finE e j.to d.1.2.1 d.1.2.2.1 now c) (j.cl, j.se, d.1.2.1, d.1.2.2.1, 0, e.ep, ())) (.ret _)
theorem hear_t (j : JbT) (e : Ent) (p : List PhT) (r : RpT) (now : Int) (c : CfT) (h : smallT e) (hl : p.length ≤ 1000000) : Tends (fun F => M_job_Hear F (j, e.t, p, r, now, c)) (hearP j e p r now c) := by
 unfold M_job_Hear hearP
 by_cases hc : mineB j r = false ∨ r.code < 1 ∨ 3 < r.code
 ·rw [if_pos hc]
  cases hm : mineB j r with
  | false =>
   refine Tends.bind (Tends.bind (.of fun F => (mine_eq F j r).trans (by rw [hm])) (Tends.neg (by decide) (.ret _))) ?_
   exact Tends.bind (Tends.neg (by simp) (.ret _)) (Tends.pos rfl (.of fun F => rfl))
  | true =>
   refine Tends.bind (Tends.bind (.of fun F => (mine_eq F j r).trans (by rw [hm])) (Tends.pos rfl (.ret _))) ?_
   rcases hc with hc | hc | hc
   ·rw [hm] at hc; cases hc
   ·exact Tends.bind (Tends.neg (by show ¬ decide (r.code < 1) = false; rw [decide_eq_true hc]; decide) (.ret _)) (Tends.pos rfl (.of fun F => rfl))
   ·by_cases h1 : r.code < 1
    ·exact Tends.bind (Tends.neg (by show ¬ decide (r.code < 1) = false; rw [decide_eq_true h1]; decide) (.ret _)) (Tends.pos rfl (.of fun F => rfl))
    ·exact Tends.bind (Tends.pos (by show decide (r.code < 1) = false; exact decide_eq_false h1) (.ret _)) (Tends.pos (decide_eq_true hc) (.of fun F => rfl))
 ·rw [if_neg hc]
  have hm : mineB j r = true := by
   cases hm : mineB j r with
   | true => rfl
   | false => exact absurd (.inl hm) hc
  have h1 : ¬ r.code < 1 := fun x => hc (.inr (.inl x))
  have h3 : ¬ 3 < r.code := fun x => hc (.inr (.inr x))
  refine Tends.bind (Tends.bind (.of fun F => (mine_eq F j r).trans (by rw [hm])) (Tends.pos rfl (.ret _))) ?_
  refine Tends.bind (Tends.pos (by show decide (r.code < 1) = false; exact decide_eq_false h1) (.ret _)) (Tends.neg (by show ¬ decide (3 < r.code) = true; rw [decide_eq_true_eq]; exact h3) ?_)
  refine Tends.bind (.of fun F => owns_eq F j e now) ?_
  cases ho : ownsB j e now with
  | false => exact Tends.pos rfl (.of fun F => rfl)
  | true =>
   rw [if_neg (show ¬ (true = false) by decide)]
   refine Tends.neg (by decide) ?_
   by_cases k1 : r.code = 1
   ·rw [if_pos k1]
    refine Tends.pos (decide_eq_true k1) (Tends.bind (Tends.bind (pass_t' e j.to now c h) (.ret _)) ?_)
    exact Tends.bind (.of fun F => put_eq F j 3 (passE e j.to now c) zAn) (.ret _)
   rw [if_neg k1]
   refine Tends.neg (by rw [decide_eq_true_eq]; exact k1) ?_
   have hfail : r.code = 2 → callsT p e.pt = 0 → _ := fun a b => (⟨a, b⟩ : r.code = 2 ∧ callsT p e.pt = 0)
   by_cases k2 : r.code = 2
   ·refine Tends.bind (Tends.pos (decide_eq_true k2) (Tends.bind (calls_t p e.pt hl) (.ret _))) ?_
    by_cases kc : callsT p e.pt = 0
    ·rw [if_pos ⟨k2, kc⟩]
     refine Tends.pos (decide_eq_true kc) (Tends.bind (Tends.bind (fail_t e j.to h) (.ret _)) ?_)
     refine Tends.bind (.of fun F => rfl) ?_
     exact Tends.bind (.of fun F => put_eq F j 4 (failE e j.to) (laterA j)) (.ret _)
    ·rw [if_neg (fun x => kc x.2)]
     refine Tends.neg (by rw [decide_eq_true_eq]; exact kc) (Tends.bind (Tends.bind (release_t e j.to now h) (.ret _)) ?_)
     refine Tends.bind (.of fun F => rfl) ?_
     exact Tends.bind (.of fun F => put_eq F j 4 (relE e j.to now) (laterA j)) (.ret _)
   ·rw [if_neg (fun x => k2 x.1)]
    refine Tends.bind (Tends.neg (by rw [decide_eq_true_eq]; exact k2) (.ret _)) ?_
    refine Tends.neg Bool.false_ne_true (Tends.bind (Tends.bind (release_t e j.to now h) (.ret _)) ?_)
    refine Tends.bind (.of fun F => rfl) ?_
    exact Tends.bind (.of fun F => put_eq F j 4 (relE e j.to now) (laterA j)) (.ret _)
end Go.Vm
