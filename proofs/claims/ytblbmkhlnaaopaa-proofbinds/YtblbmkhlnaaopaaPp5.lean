/- Two unlike texts that come to one root: plain. -/
import Derived.Test.YtblbmkhlnaaopaaPp4

namespace Go.Vm
open Go Go.Proofs
set_option linter.unusedVariables false

theorem right_loop : ∀ (down n i : Nat), n ≤ 1048576 → i < 4294967296 → (h : down < (turnsD n i).length) → TendsL M_conciergeref41_right_l0 ((n : Int), (i : Int), (down : Int), ()) (.inr ((turnsD n i)[down], ()))
  | 0, n, i, hn, hi, h => by
    have h2 : 2 ≤ n := by
      by_cases h2 : 2 ≤ n
      · exact h2
      · rw [turnsD_small (by omega)] at h; simp at h
    refine TendsL.fin ?_
    unfold M_conciergeref41_right_l0
    refine Tends.pos (by simp; omega) (Tends.bind (rhalf_tends n h2 (by omega)) (Tends.pos (by simp) ?_))
    refine Tends.of fun F => ?_
    by_cases hl : i < hf n
    · simp only [turnsD_left h2 hl, List.getElem_cons_zero]
      have : ¬ ((hf n : Int) ≤ (i : Int)) := by omega
      simp [this]
    · simp only [turnsD_right h2 hl, List.getElem_cons_zero]
      have : ((hf n : Int) ≤ (i : Int)) := by omega
      simp [this]
  | down + 1, n, i, hn, hi, h => by
    have h2 : 2 ≤ n := by
      by_cases h2 : 2 ≤ n
      · exact h2
      · rw [turnsD_small (by omega)] at h; simp at h
    have hlen := turnsD_len 20 n i (by simpa using hn)
    have e1 : IntKind.i64.wrap (((down + 1 : Nat) : Int) - 1) = (down : Int) := by rw [wrap64] <;> omega
    have hh := hf_lt h2
    by_cases hl : i < hf n
    · have e := turnsD_left h2 hl
      have h' : down < (turnsD (hf n) i).length := by rw [e] at h; simpa using h
      have ih := right_loop down (hf n) i (by omega) hi h'
      have er : (turnsD n i)[down + 1] = (turnsD (hf n) i)[down] := by simp only [e, List.getElem_cons_succ]
      rw [er]
      refine TendsL.step ?_ ih
      unfold M_conciergeref41_right_l0
      refine Tends.pos (by simp; omega) (Tends.bind (rhalf_tends n h2 (by omega)) (Tends.neg (by simp; omega) ?_))
      refine Tends.bind (Tends.pos (by simp; omega) (.ret _)) (.of fun F => ?_)
      rw [e1]
    · have e := turnsD_right h2 hl
      have h' : down < (turnsD (n - hf n) (i - hf n)).length := by rw [e] at h; simpa using h
      have ih := right_loop down (n - hf n) (i - hf n) (by omega) (by omega) h'
      have er : (turnsD n i)[down + 1] = (turnsD (n - hf n) (i - hf n))[down] := by simp only [e, List.getElem_cons_succ]
      rw [er]
      refine TendsL.step ?_ ih
      unfold M_conciergeref41_right_l0
      refine Tends.pos (by simp; omega) (Tends.bind (rhalf_tends n h2 (by omega)) (Tends.neg (by simp; omega) ?_))
      refine Tends.bind (Tends.neg (by simp; omega) (.ret _)) (.of fun F => ?_)
      have e2 : IntKind.i64.wrap ((n : Int) - (hf n : Int)) = ((n - hf n : Nat) : Int) := by rw [wrap64] <;> omega
      have e3 : IntKind.i64.wrap ((i : Int) - (hf n : Int)) = ((i - hf n : Nat) : Int) := by rw [wrap64] <;> omega
      simp only [e1, e2, e3]
theorem right_tends (n i down : Nat) (hn : n ≤ 1048576) (hi : i < 4294967296) (h : down < (turnsD n i).length) : Tends (fun F => M_conciergeref41_right F ((n : Int), (i : Int), (down : Int))) (turnsD n i)[down] := by
  unfold M_conciergeref41_right
  exact Tends.bind (right_loop down n i hn hi h).run (.ret _)

/-- The texts on the way up. -/
def upT (w : Bool) (o d : List UInt8) : List UInt8 := if w then [1] ++ o ++ d else [1] ++ d ++ o
theorem upT_dig (w : Bool) (o d : List UInt8) : dig (upT w o d) = if w then knotD o d else knotD d o := by cases w <;> rfl
def topsL : List Bool → List (List UInt8) → List UInt8 → List (List UInt8)
  | w :: ws, o :: os, d => upT w o d :: topsL ws os (dig (upT w o d))
  | _, _, _ => []

theorem tops_loop (n i : Nat) (hn : n ≤ 1048576) (hi : i < 4294967296) (path : List (List UInt8)) (hl : path.length = (turnsD n i).length) (hs : path.length ≤ 1000) (hp : Sp path) (x : List UInt8) : ∀ (m k : Nat) (d : List UInt8) (out : List (List UInt8)), k + m = path.length → d.length ≤ 10000 → out.length + m ≤ 5000 →
    up ((turnsD n i).reverse.drop k) (path.drop k) d = some x →
    TendsL M_conciergeref41_Tops_l0 ((n : Int), (i : Int), path, (), d, (k : Int), out, ()) ((n : Int), (), x, out ++ topsL ((turnsD n i).reverse.drop k) (path.drop k) d, ())
  | 0, k, d, out, h, hd, ho, hx => by
    have e1 : (turnsD n i).reverse.drop k = [] := List.drop_eq_nil_of_le (by simp; omega)
    have e2 : path.drop k = [] := List.drop_eq_nil_of_le (by omega)
    rw [e1, e2] at hx ⊢
    simp only [up, Option.some.injEq] at hx
    subst hx
    refine TendsL.fin (.of fun F => ?_)
    unfold M_conciergeref41_Tops_l0
    refine (if_neg (by simp; omega)).trans ?_
    simp [topsL]
  | m + 1, k, d, out, h, hd, ho, hx => by
    have hk : k < path.length := by omega
    have hw : k < (turnsD n i).reverse.length := by simp; omega
    have e1 : IntKind.i64.wrap ((path.length : Int) - 1) = ((path.length - 1 : Nat) : Int) := by rw [wrap64] <;> omega
    have e2 : IntKind.i64.wrap (((path.length - 1 : Nat) : Int) - (k : Int)) = ((path.length - 1 - k : Nat) : Int) := by rw [wrap64] <;> omega
    have hxk := idxN path k (k : Int) rfl hk
    have hr := right_tends n i (path.length - 1 - k) hn hi (by omega)
    have hrev : (turnsD n i).reverse[k] = (turnsD n i)[path.length - 1 - k]'(by omega) := by simp [hl]
    have hpl := hp path[k] (List.getElem_mem hk)
    rw [List.drop_eq_getElem_cons hw, List.drop_eq_getElem_cons hk] at hx ⊢
    simp only [up] at hx
    have h32 : path[k].length = 32 := by
      by_cases h32 : path[k].length = 32
      · exact h32
      · rw [if_neg h32] at hx; cases hx
    rw [if_pos h32, ← upT_dig] at hx
    have ih := tops_loop n i hn hi path hl hs hp x m (k + 1) (dig (upT (turnsD n i).reverse[k] path[k] d)) (out ++ [upT (turnsD n i).reverse[k] path[k] d]) (by omega) (by rw [dig_len]; omega) (by simp; omega) hx
    have eo : out ++ topsL ((turnsD n i).reverse[k] :: (turnsD n i).reverse.drop (k + 1)) (path[k] :: path.drop (k + 1)) d = (out ++ [upT (turnsD n i).reverse[k] path[k] d]) ++ topsL ((turnsD n i).reverse.drop (k + 1)) (path.drop (k + 1)) (dig (upT (turnsD n i).reverse[k] path[k] d)) := by
      simp [topsL]
    rw [eo]
    refine TendsL.step ?_ ih
    unfold M_conciergeref41_Tops_l0
    refine Tends.pos (by simp; omega) (Tends.pos (by simp; omega) (Tends.bind (.const hxk) (Tends.pos (by simp; omega) ?_)))
    refine Tends.bind (m := fun F => M_conciergeref41_right F ((n : Int), (i : Int), IntKind.i64.wrap (IntKind.i64.wrap ((path.length : Int) - 1) - (k : Int)))) (by rw [e1, e2]; exact hr) ?_
    rw [← hrev]
    refine Tends.bind (r := ((n : Int), (i : Int), path, (), (k : Int), upT (turnsD n i).reverse[k] path[k] d, out, ())) ?_ ?_
    · cases hb : (turnsD n i).reverse[k]
      · exact Tends.neg (by simp) (.ret _)
      · exact Tends.pos rfl (Tends.bind (.const hxk) (Tends.pos (by simp; omega) (Tends.pos (by simp; omega) (.ret _))))
    · refine Tends.pos (by simp; omega) (Tends.bind (ref3_tends _ ?_) (.of fun F => ?_))
      · show (upT _ _ _).length ≤ _
        unfold upT
        split <;> simp <;> omega
      · simp only
        rw [next_nat k (by omega)]

def topsD (n : Nat) (ws : List Bool) (t : List UInt8) (path : List (List UInt8)) (x : List UInt8) : List (List UInt8) := ([0] ++ t) :: topsL ws path (leafD t) ++ [[2] ++ numL n ++ x]
theorem topsL_len : ∀ (ws : List Bool) (os : List (List UInt8)) (d : List UInt8), ws.length = os.length → (topsL ws os d).length = ws.length
  | [], [], _, _ => rfl
  | [], _ :: _, _, h => by simp at h
  | _ :: _, [], _, h => by simp at h
  | w :: ws, o :: os, d, h => by simp only [topsL, List.length_cons]; rw [topsL_len ws os _ (by simpa using h)]
theorem topsL_sp : ∀ (ws : List Bool) (os : List (List UInt8)) (d : List UInt8), Sp os → d.length ≤ 10000 → ∀ y ∈ topsL ws os d, y.length ≤ 100000
  | [], _, _, _, _, y, hy => by simp [topsL] at hy
  | _ :: _, [], _, _, _, y, hy => by simp [topsL] at hy
  | w :: ws, o :: os, d, hs, hd, y, hy => by
    simp only [topsL, List.mem_cons] at hy
    rcases hy with rfl | hy
    · have := hs o (by simp)
      unfold upT
      split <;> simp <;> omega
    · exact topsL_sp ws os _ (fun z hz => hs z (by simp [hz])) (by rw [dig_len]; omega) y hy

theorem tops_tends (n i : Nat) (hn : n ≤ 1048576) (hi : i < 4294967296) (t : List UInt8) (ht : t.length ≤ 10000) (path : List (List UInt8)) (hs : path.length ≤ 1000) (hp : Sp path) (x : List UInt8) (hx : upD n i path (leafD t) = some x) :
    Tends (fun F => M_conciergeref41_Tops F ((n : Int), (i : Int), t, path)) (topsD n (turnsD n i).reverse t path x) := by
  have hx32 := upD_len hx (dig_len _)
  unfold upD at hx
  split at hx
  · rename_i hl
    unfold M_conciergeref41_Tops
    refine Tends.pos (by simp; omega) (Tends.bind (rleaf_tends t (by omega)) ?_)
    have hlp := tops_loop n i hn hi path hl hs hp x path.length 0 (leafD t) [[0] ++ t] (by omega) (by unfold leafD; rw [dig_len]; omega) (by simp; omega) (by simpa using hx)
    rw [List.drop_zero, List.drop_zero] at hlp
    refine Tends.bind hlp.run (Tends.bind (rnum_tends n (by omega)) ?_)
    have h1 := numL_len n (by omega)
    have h2 := topsL_len (turnsD n i).reverse path (leafD t) (by simp; omega)
    refine Tends.pos (by simp; omega) (Tends.pos (by simp; omega) (Tends.pos ?_ (.ret _)))
    simp only [List.length_append, List.length_cons, List.length_nil, h2, List.length_reverse]
    simp
    omega
  · cases hx

/-- ONE ROOT, TWO TEXTS: two unlike texts of one digest. -/
def Two (x y : List (List UInt8)) : Prop := ∃ j, ∃ (h : j < x.length) (h' : j < y.length), x[j] ≠ y[j] ∧ dig x[j] = dig y[j]
theorem Two.cons {a b : List UInt8} {x y : List (List UInt8)} (h : Two x y) : Two (a :: x) (b :: y) := by
  obtain ⟨j, h, h', h1, h2⟩ := h
  exact ⟨j + 1, by simp; omega, by simp; omega, by simpa using h1, by simpa using h2⟩
theorem Two.app {x y u v : List (List UInt8)} (h : Two x y) : Two (x ++ u) (y ++ v) := by
  obtain ⟨j, h, h', h1, h2⟩ := h
  exact ⟨j, by simp; omega, by simp; omega, by simpa [List.getElem_append_left h, List.getElem_append_left h'] using h1, by simpa [List.getElem_append_left h, List.getElem_append_left h'] using h2⟩
theorem two_up : ∀ (ws : List Bool) (os os' : List (List UInt8)) (d d' x : List UInt8), d.length = 32 → d'.length = 32 → up ws os d = some x → up ws os' d' = some x → d ≠ d' → Two (topsL ws os d) (topsL ws os' d')
  | [], [], [], d, d', x, _, _, h, h', hne => by
    simp only [up, Option.some.injEq] at h h'
    exact absurd (h.trans h'.symm) hne
  | [], _ :: _, _, _, _, _, _, _, h, _, _ => by cases h
  | [], [], _ :: _, _, _, _, _, _, _, h, _ => by cases h
  | _ :: _, [], _, _, _, _, _, _, h, _, _ => by cases h
  | _ :: _, _ :: _, [], _, _, _, _, _, _, h, _ => by cases h
  | w :: ws, o :: os, o' :: os', d, d', x, hd, hd', h, h', hne => by
    simp only [up] at h h'
    split at h
    · rename_i ho
      split at h'
      · rename_i ho'
        rw [← upT_dig] at h h'
        simp only [topsL]
        by_cases he : dig (upT w o d) = dig (upT w o' d')
        · refine ⟨0, by simp, by simp, ?_, by simpa using he⟩
          simp only [List.getElem_cons_zero]
          intro hu
          apply hne
          unfold upT at hu
          split at hu
          · have := List.append_inj (by simpa using hu) (by omega)
            exact this.2
          · have := List.append_inj (by simpa using hu) (by omega)
            exact this.1
        · exact (two_up ws os os' _ _ x (dig_len _) (dig_len _) h h' he).cons
      · cases h'
    · cases h
theorem two_all (n : Nat) (ws : List Bool) (a b : List UInt8) (os os' : List (List UInt8)) (x y : List UInt8) (hab : a ≠ b) (hl : ws.length = os.length) (hl' : ws.length = os'.length) (hx : up ws os (leafD a) = some x) (hy : up ws os' (leafD b) = some y) (he : sealD n x = sealD n y) :
    Two (topsD n ws a os x) (topsD n ws b os' y) := by
  unfold topsD
  by_cases hxy : x = y
  · subst hxy
    by_cases h0 : leafD a = leafD b
    · exact ⟨0, by simp, by simp, by simpa using hab, h0⟩
    · exact (two_up ws os os' _ _ x (dig_len _) (dig_len _) hx hy h0).cons.app
  · have h1 := topsL_len ws os (leafD a) hl
    have h2 := topsL_len ws os' (leafD b) hl'
    refine ⟨ws.length + 1, by simp; omega, by simp; omega, ?_, ?_⟩
    · rw [List.getElem_append_right (by simp; omega), List.getElem_append_right (by simp; omega)]
      simp [h1, h2, hxy]
    · rw [List.getElem_append_right (by simp; omega), List.getElem_append_right (by simp; omega)]
      simpa [h1, h2, sealD] using he

theorem binds_loop (x y : List (List UInt8)) (hx : ∀ z ∈ x, z.length ≤ 100000) (hy : ∀ z ∈ y, z.length ≤ 100000) (hl : x.length ≤ 10000) (j : Nat) (hj : j < x.length) (hj' : j < y.length) (hne : x[j] ≠ y[j]) (he : dig x[j] = dig y[j]) : ∀ (m k : Nat), k + m = j →
    TendsL M_conciergelaw41_ProofBinds_l0 (x, y, (x.length : Int), (k : Int), ()) (.inr (true, ()))
  | m, k, h => by
    have hk : k < x.length := by omega
    have hk' : k < y.length := by omega
    have e1 := idxN x k (k : Int) rfl hk
    have e2 := idxN y k (k : Int) rfl hk'
    have l1 := hx x[k] (List.getElem_mem hk)
    have l2 := hy y[k] (List.getElem_mem hk')
    by_cases hf : x[k] ≠ y[k] ∧ dig x[k] = dig y[k]
    · refine TendsL.fin ?_
      unfold M_conciergelaw41_ProofBinds_l0
      refine Tends.pos (by simp; omega) ?_
      refine Tends.bind (r := (x, y, (x.length : Int), (k : Int), true, ())) ?_ (Tends.pos rfl (.ret _))
      refine Tends.pos (by simp; omega) (Tends.bind (.const e1) (Tends.bind (.const e2) (Tends.pos (by simp [hf.1]) ?_)))
      refine Tends.bind (.const e1) (Tends.bind (ref3_tends _ (by omega)) (Tends.bind (.const e2) (Tends.bind (ref3_tends _ (by omega)) (.of fun F => ?_))))
      simp [hf.2]
    · cases m with
      | zero =>
        obtain rfl : k = j := by omega
        exact absurd ⟨hne, he⟩ hf
      | succ m =>
        refine TendsL.step ?_ (binds_loop x y hx hy hl j hj hj' hne he m (k + 1) (by omega))
        unfold M_conciergelaw41_ProofBinds_l0
        refine Tends.pos (by simp; omega) ?_
        refine Tends.bind (r := (x, y, (x.length : Int), (k : Int), false, ())) ?_ (Tends.neg (by simp) (.of fun F => by simp only [next_nat k (by omega)]))
        refine Tends.pos (by simp; omega) (Tends.bind (.const e1) (Tends.bind (.const e2) ?_))
        by_cases hq : x[k] = y[k]
        · exact Tends.neg (by simp [hq]) (.ret _)
        · refine Tends.pos (by simp [hq]) ?_
          refine Tends.bind (.const e1) (Tends.bind (ref3_tends _ (by omega)) (Tends.bind (.const e2) (Tends.bind (ref3_tends _ (by omega)) (.of fun F => ?_))))
          have : dig x[k] ≠ dig y[k] := fun q => hf ⟨hq, q⟩
          simp [this]

end Go.Vm
