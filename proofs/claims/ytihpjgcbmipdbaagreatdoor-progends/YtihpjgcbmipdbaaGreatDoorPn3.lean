/- Programs: from any phase on its end is come to. No condition but on lengths. -/
import Derived.Test.YtihpjgcbmipdbaaGreatDoorPn2
namespace Go.Vm
open Go.Proofs
set_option linter.unusedVariables false
set_option linter.unusedSimpArgs false
def withPt (e : EnT) (i : Int) : EnT := (e.1, e.2.1, e.2.2.1, e.2.2.2.1, e.2.2.2.2.1, i, e.2.2.2.2.2.2)
theorem next_at (p : List PhT) (e : EnT) (i : Nat) (x : PhT) (hl : p.length ≤ 1000000) (hb : ∀ x ∈ p, bndP x) (hm : mayG p = true) (hx : p[i]? = some x) (he : e.key.length ≤ 1000 ∧ e.method.length ≤ 1000 ∧ e.path.length ≤ 1000 ∧ e.body.length ≤ 1000) : Tends (fun F => M_prog_Next F (p, withPt e i)) (doT x (withPt e i), 0) := by
 have hlt : i < p.length := by
  rcases Nat.lt_or_ge i p.length with h | h
  ·exact h
  ·rw [List.getElem?_eq_none h] at hx; cases hx
 have h := next_t p (withPt e i) hl hb he
 have e1 : (withPt e i).pt = (i : Int) := rfl
 unfold nextT at h
 rw [hm, if_neg (by decide), e1, if_neg (by omega), Int.toNat_natCast, hx] at h
 exact h
abbrev EndS := List PhT × Unit × Int × Int × Int × Int × EnT × Unit
theorem ends_fin (p : List PhT) (e : EnT) (i k st : Nat) (last : Int) (x : PhT) (d : DoT) (hl : p.length ≤ 1000000) (hlt : i < p.length) (hx : p[i]? = some x) (hk : k ≤ callsN p i)
  (hn : Tends (fun F => M_prog_Next F (p, withPt e i)) (d, 0)) (h1 : d.1 = 2) (h2 : d.2.1 ≠ 402 → i + 1 = p.length ∧ d.2.1 = x.2.2.1) (h3 : d.2.2.1.length ≤ 40) :
  TendsL M_conciergelaw23_ProgEnds_l0 (p, (), (st : Int), (k : Int), last, (i : Int), e, ()) (.inr (true, ())) := by
 have hix : idx p (i : Int) = some x := idx_at _ _ _ hx
 refine TendsL.fin ?_
 unfold M_conciergelaw23_ProgEnds_l0
 refine Tends.pos (by rw [decide_eq_true_eq]; simp only; omega) ?_
 refine Tends.bind (r := (.inr (true, ()) : EndS ⊕ Bool × Unit)) (Tends.bind hn (Tends.neg (by simp) (Tends.neg (by simp [h1]) (Tends.neg (by simp [h1]) (Tends.pos (by simp [h1]) ?_))))) (.ret _)
 refine Tends.bind (r := ((p, (k : Int), (i : Int), (), false, d, ()) : List PhT × Int × Int × Unit × Bool × DoT × Unit)) ?_ (Tends.neg Bool.false_ne_true (Tends.bind (r := ((true, ()) : Bool × Unit)) (Tends.pos (by rw [decide_eq_true_eq]; simp only; omega) (Tends.bind (calls_t p i hl) (.of fun F => ?_))) (.ret _)))
 ·by_cases h4 : d.2.1 = 402
  ·exact Tends.neg (by simp [h4]) (.ret _)
  ·obtain ⟨a, b⟩ := h2 h4
   have hw : IntKind.i64.wrap ((p.length : Int) - 1) = (i : Int) := by rw [wrap64 _ (by omega) (by omega)]; omega
   exact Tends.pos (by simp [h4]) (Tends.pos (by simp [hw]) (Tends.bind (.of fun F => hix) (.of fun F => by simp [b])))
 ·have : (k : Int) ≤ callsT p i := by unfold callsT; rw [Int.toNat_natCast]; omega
  rw [decide_eq_true this]
theorem ends_pass (p : List PhT) (e : EnT) (i k st : Nat) (last : Int) (d : DoT) (hl : p.length ≤ 1000000) (hlt : i < p.length) (hst : st ≤ i)
  (hn : Tends (fun F => M_prog_Next F (p, withPt e i)) (d, 0)) (h1 : d.1 = 1) (r : Unit ⊕ Bool × Unit)
  (ih : TendsL M_conciergelaw23_ProgEnds_l0 (p, (), ((st + 1 : Nat) : Int), (k : Int), last, ((i + 1 : Nat) : Int), withPt e i, ()) r) :
  TendsL M_conciergelaw23_ProgEnds_l0 (p, (), (st : Int), (k : Int), last, (i : Int), e, ()) r := by
 have hw : IntKind.i64.wrap ((i : Int) + 1) = ((i + 1 : Nat) : Int) := by rw [wrap64 _ (by omega) (by omega)]; omega
 have hw2 : IntKind.i64.wrap ((st : Int) + 1) = ((st + 1 : Nat) : Int) := by rw [wrap64 _ (by omega) (by omega)]; omega
 refine TendsL.step ?_ ih
 unfold M_conciergelaw23_ProgEnds_l0
 refine Tends.pos (by rw [decide_eq_true_eq]; simp only; omega) ?_
 refine Tends.bind (r := (.inl (p, (), ((st + 1 : Nat) : Int), (k : Int), last, (i : Int), withPt e i, ()) : EndS ⊕ Bool × Unit)) (Tends.bind hn (Tends.neg (by simp) (Tends.pos (by simp [h1]) (.of fun F => ?_)))) (.of fun F => ?_)
 ·simp only [hw2]
  rfl
 ·rw [← hw]
  rfl
theorem ends_call (p : List PhT) (e : EnT) (i k st : Nat) (last : Int) (d : DoT) (hl : p.length ≤ 1000000) (hlt : i < p.length) (hst : st ≤ i) (hk : k ≤ i) (hla : last < i)
  (hn : Tends (fun F => M_prog_Next F (p, withPt e i)) (d, 0)) (h1 : d.1 = 3) (h2 : d.2.2.2.2.2.2.1 = (i : Int)) (h3 : d.2.2.2.2.2.2.2.1 = e.2.2.2.2.1) (h4 : d.2.2.2.2.2.1 = e.2.2.2.1) (r : Unit ⊕ Bool × Unit)
  (ih : TendsL M_conciergelaw23_ProgEnds_l0 (p, (), ((st + 1 : Nat) : Int), ((k + 1 : Nat) : Int), (i : Int), ((i + 1 : Nat) : Int), withPt e i, ()) r) :
  TendsL M_conciergelaw23_ProgEnds_l0 (p, (), (st : Int), (k : Int), last, (i : Int), e, ()) r := by
 have hw : IntKind.i64.wrap ((i : Int) + 1) = ((i + 1 : Nat) : Int) := by rw [wrap64 _ (by omega) (by omega)]; omega
 have hw2 : IntKind.i64.wrap ((st : Int) + 1) = ((st + 1 : Nat) : Int) := by rw [wrap64 _ (by omega) (by omega)]; omega
 have hw3 : IntKind.i64.wrap ((k : Int) + 1) = ((k + 1 : Nat) : Int) := by rw [wrap64 _ (by omega) (by omega)]; omega
 refine TendsL.step ?_ ih
 unfold M_conciergelaw23_ProgEnds_l0
 refine Tends.pos (by rw [decide_eq_true_eq]; simp only; omega) ?_
 refine Tends.bind (r := (.inl (p, (), ((st + 1 : Nat) : Int), ((k + 1 : Nat) : Int), (i : Int), (i : Int), withPt e i, ()) : EndS ⊕ Bool × Unit)) (Tends.bind hn (Tends.neg (by simp) (Tends.neg (by simp [h1]) (Tends.pos (by simp [h1]) ?_)))) (.of fun F => ?_)
 ·refine Tends.bind (r := ((p, (), ((st + 1 : Nat) : Int), (k : Int), (i : Int), (), false, withPt e i, d, ()) : List PhT × Unit × Int × Int × Int × Unit × Bool × EnT × DoT × Unit)) (Tends.pos (by rw [decide_eq_false_iff_not]; show ¬ (d.2.2.2.2.2.2.1 ≤ last); omega) (.of fun F => ?_)) ?_
  ·simp only [h3, decide_true, Bool.not_true, hw2]
   rfl
  refine Tends.bind (r := ((p, (), ((st + 1 : Nat) : Int), (k : Int), (i : Int), (), false, withPt e i, d, ()) : List PhT × Unit × Int × Int × Int × Unit × Bool × EnT × DoT × Unit)) (Tends.pos rfl (.of fun F => ?_)) (Tends.neg Bool.false_ne_true (.of fun F => ?_))
  ·have : d.2.2.2.2.2.1 = (withPt e i).2.2.2.1 := h4
   simp only [this, decide_true, Bool.not_true]
  ·simp only [h2, hw3]
 ·rw [← hw]
  rfl
theorem nm_le {s : By} (h : nmP s = true) : s.length ≤ 20 := by
 unfold nmP at h
 simp only [Bool.and_eq_true, decide_eq_true_eq] at h
 omega
theorem ends_loop (p : List PhT) (hl : p.length ≤ 1000000) (hb : ∀ x ∈ p, bndP x) (hm : mayG p = true) : ∀ (n i k st : Nat) (last : Int) (e : EnT), (e.key.length ≤ 1000 ∧ e.method.length ≤ 1000 ∧ e.path.length ≤ 1000 ∧ e.body.length ≤ 1000) → i + (n + 1) = p.length → k ≤ callsN p i → k ≤ i → st ≤ i → last < i →
  TendsL M_conciergelaw23_ProgEnds_l0 (p, (), (st : Int), (k : Int), last, (i : Int), e, ()) (.inr (true, ())) := by
 intro n
 induction n with
 | zero =>
  intro i k st last e he h hk hki hst hla
  have hlt : i < p.length := by omega
  have hx : p[i]? = some p[i] := List.getElem?_eq_getElem hlt
  obtain ⟨hr, h4⟩ := mayG_at hm hx
  have k4 : (p[i]).1 = 4 := h4.2 (by omega)
  have hn := next_at p e i _ hl hb hm hx he
  have e0 : doT p[i] (withPt e i) = (2, (p[i]).2.2.1, fillT (p[i]).2.2.2.1 (withPt e i), 0, [], 0, 0, 0, [], [], ()) := by
   unfold doT
   rw [if_neg (by rw [k4]; decide), if_neg (by rw [k4]; decide), if_neg (by rw [k4]; decide)]
  rw [e0] at hn
  exact ends_fin p e i k st last _ _ hl hlt hx hk hn rfl (fun _ => ⟨by omega, rfl⟩) (fill_out _ _).2
 | succ n ih =>
  intro i k st last e he h hk hki hst hla
  have hlt : i < p.length := by omega
  have hx : p[i]? = some p[i] := List.getElem?_eq_getElem hlt
  obtain ⟨hr, h4⟩ := mayG_at hm hx
  have k4 : (p[i]).1 ≠ 4 := fun c => by have := h4.1 c; omega
  have hn := next_at p e i _ hl hb hm hx he
  have hcs := callsN_succ hx
  generalize p[i] = x at *
  have hpass : ∀ (ok : Bool) (why : By), why.length ≤ 30 → doT x (withPt e i) = passD ok why → TendsL M_conciergelaw23_ProgEnds_l0 (p, (), (st : Int), (k : Int), last, (i : Int), e, ()) (.inr (true, ())) := by
   intro ok why hwl hd
   rw [hd] at hn
   cases ok with
   | true => exact ends_pass p e i k st last _ hl hlt hst hn rfl _ (ih (i + 1) k (st + 1) last (withPt e i) he (by omega) (by omega) (by omega) (by omega) (by omega))
   | false => exact ends_fin p e i k st last _ _ hl hlt hx hk hn rfl (fun h => absurd rfl h) (by show (tRef ++ why).length ≤ 40; rw [List.length_append]; have : tRef.length = 8 := rfl; omega)
  by_cases k1 : x.1 = 1
  ·exact hpass _ wOnly (by decide) (by unfold doT; rw [if_pos k1])
  by_cases k2 : x.1 = 2
  ·refine hpass _ (wNeed ++ 32 :: x.2.1) ?_ (by unfold doT; rw [if_neg k1, if_pos k2])
   unfold rightG at hr
   rw [if_neg k1, if_pos k2] at hr
   simp only [Bool.and_eq_true] at hr
   have := nm_le hr.1.2
   simp only [List.length_append, List.length_cons, List.length_nil]
   omega
  by_cases k3 : x.1 = 3
  ·have e0 : doT x (withPt e i) = (3, 0, [], (withPt e i).1, (withPt e i).key, (withPt e i).ep, (withPt e i).pt, (withPt e i).tk, x.2.1, fillT x.2.2.2.1 (withPt e i), ()) := by
    unfold doT
    rw [if_neg k1, if_neg k2, if_pos k3]
   rw [e0] at hn
   rw [if_pos k3] at hcs
   exact ends_call p e i k st last _ hl hlt hst hki hla hn rfl rfl rfl rfl _ (ih (i + 1) (k + 1) (st + 1) (i : Int) (withPt e i) he (by omega) (by omega) (by omega) (by omega) (by omega))
  ·exfalso
   unfold rightG at hr
   rw [if_neg k1, if_neg k2, if_neg k3, if_neg k4] at hr
   cases hr
theorem progEnds_t (p : List PhT) (e : EnT) : Tends (fun F => M_conciergelaw23_ProgEnds F (p, e)) true := by
 unfold M_conciergelaw23_ProgEnds
 refine Tends.bind awake23_t (Tends.neg (by decide) ?_)
 refine Tends.bind (r := ((p, (), !(small23 p && smallE e), e, ()) : List PhT × Unit × Bool × EnT × Unit)) ?_ ?_
 ·refine Tends.bind (small23_t p) ?_
  cases small23 p with
  | true => exact Tends.pos rfl (Tends.bind (small1_t e) (.ret _))
  | false => exact Tends.neg (by decide) (.ret _)
 cases hs : (small23 p && smallE e) with
 | false =>
  refine Tends.bind (r := ((p, (), true, e, ()) : List PhT × Unit × Bool × EnT × Unit)) (Tends.neg (by simp) (.ret _)) ?_
  refine Tends.bind (r := ((p, (), true, e, ()) : List PhT × Unit × Bool × EnT × Unit)) (Tends.neg (by simp) (.ret _)) ?_
  refine Tends.bind (r := ((p, (), true, e, ()) : List PhT × Unit × Bool × EnT × Unit)) (Tends.neg (by simp) (.ret _)) ?_
  exact Tends.pos rfl (.ret _)
 | true =>
  rw [Bool.and_eq_true] at hs
  obtain ⟨hl, hb⟩ := small23_bnd hs.1
  have he := small_he e hs.2
  refine Tends.bind (r := ((p, (), !mayG p, e, ()) : List PhT × Unit × Bool × EnT × Unit)) (Tends.pos rfl (Tends.bind (rmay_t p (by omega) hb) (.ret _))) ?_
  refine Tends.bind (r := ((p, (), !mayG p || decide (e.pt < 0), e, ()) : List PhT × Unit × Bool × EnT × Unit)) ?_ ?_
  ·cases mayG p with
   | true => exact Tends.pos rfl (.ret _)
   | false => exact Tends.neg (by simp) (.ret _)
  refine Tends.bind (r := ((p, (), !mayG p || decide (e.pt < 0) || decide ((p.length : Int) ≤ e.pt), e, ()) : List PhT × Unit × Bool × EnT × Unit)) ?_ ?_
  ·cases (!mayG p || decide (e.pt < 0)) with
   | false => exact Tends.pos rfl (.ret _)
   | true => exact Tends.neg (by simp) (.ret _)
  cases hc : (!mayG p || decide (e.pt < 0) || decide ((p.length : Int) ≤ e.pt)) with
  | true => exact Tends.pos rfl (.ret _)
  | false =>
   rw [Bool.or_eq_false_iff, Bool.or_eq_false_iff, decide_eq_false_iff_not, decide_eq_false_iff_not] at hc
   obtain ⟨⟨c1, c2⟩, c3⟩ := hc
   have hm : mayG p = true := by simpa using c1
   obtain ⟨j, hj⟩ : ∃ j : Nat, e.pt = (j : Int) := ⟨e.pt.toNat, by omega⟩
   have h := ends_loop p (by omega) hb hm (p.length - j - 1) j 0 0 (-1) e he (by omega) (by omega) (by omega) (by omega) (by omega)
   have hj' : e.2.2.2.2.2.1 = (j : Int) := hj
   refine Tends.neg (by simp) (Tends.bind (r := (.inr (true, ()) : Unit ⊕ Bool × Unit)) ?_ (.ret _))
   simp only [hj']
   exact h.run
theorem pure_conciergelaw23_ProgEnds (p : List PhT) (e : EnT) : ∃ F, M_conciergelaw23_ProgEnds F (p, e) = some true := (progEnds_t p e).ex
end Go.Vm
