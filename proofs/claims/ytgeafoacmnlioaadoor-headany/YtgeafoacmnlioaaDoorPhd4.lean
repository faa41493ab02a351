/- Heads: the program reads and prints. No condition. -/
import Derived.Test.YtgeafoacmnlioaaDoorPhd3
namespace Go.Vm
open Go Go.Proofs Go.Lib
set_option linter.unusedVariables false
set_option linter.unusedSimpArgs false
theorem Tends.orB {α : Type} {c d : Bool} {f : Bool → α} {m : Nat → Option α} (h : Tends m (f d)) : Tends (fun F => if c = false then m F else some (f true)) (f (c || d)) := by
  cases c
  · exact Tends.pos rfl h
  · exact Tends.neg (by simp) (.ret _)
theorem Tends.andB {α : Type} {c d : Bool} {f : Bool → α} {m : Nat → Option α} (h : c = true → Tends m (f d)) : Tends (fun F => if c = true then m F else some (f false)) (f (c && d)) := by
  cases c
  · exact Tends.neg (by simp) (.ret _)
  · exact Tends.pos rfl (h rfl)
/-! ### the first line -/
def firstR (x : HB) : Bool × HB × HB := match cutAt 32 x with
  | none => (false, x, [])
  | some (m, p) => (!decide (m = []) && !decide (p = []), m, p)
theorem first_t (x : HB) (hx : x.length ≤ 1000000) (a b c : HB) (fs : List HdF) : Tends (fun F => M_head_head_first F ((a, b, c, fs, ()), x)) ((firstR x).1, ((firstR x).2.1, (firstR x).2.2, c, fs, ())) := by
  unfold M_head_head_first firstR
  refine Tends.bind (.of fun F => cut_t F 32 x hx) ?_
  unfold cutR
  cases cutAt 32 x with
  | none =>
    refine Tends.bind (r := ((), [], false, (x, [], c, (), ()), fs, ())) (Tends.neg (by simp) (.ret _)) ?_
    exact Tends.bind (r := ((), false, (x, [], c, (), ()), fs, ())) (Tends.neg (by simp) (.ret _)) (.ret _)
  | some mp =>
    obtain ⟨m, p⟩ := mp
    refine Tends.bind (r := ((), p, !decide (m = []), (m, p, c, (), ()), fs, ())) (Tends.pos rfl (.ret _)) ?_
    refine Tends.bind (Tends.andB (c := !decide (m = [])) (d := !decide (p = [])) (f := fun q => ((), q, (m, p, c, (), ()), fs, ())) (fun _ => .ret _)) (.ret _)
/-! ### fields -/
theorem getP_eq (n : HB) : ∀ fs : List HdF, (getP n fs).2 = fs.any fun f => decide (f.1 = n)
  | [] => rfl
  | f :: l => by
    unfold getP
    by_cases h : f.1 = n
    · rw [if_pos h]; simp [h]
    · rw [if_neg h, getP_eq n l]; simp [h]
theorem get_loop (n m p b : HB) (fs : List HdF) (hf : fs.length ≤ 1000000) : ∀ (j k : Nat), k + j = fs.length →
    TendsL M_head_head_get_l0 ((), n, (), (fs.length : Int), (k : Int), (m, p, b, (), ()), fs, ()) (if (getP n (fs.drop k)).2 = true then .inr ((), (getP n (fs.drop k)).1, true, (m, p, b, (), ()), fs, ()) else .inl ((), (m, p, b, (), ()), fs, ()))
  | 0, k, hk => by
    refine TendsL.fin (.of fun F => ?_)
    unfold M_head_head_get_l0
    rw [List.drop_of_length_le (by omega), if_neg (by simp; omega)]
    rfl
  | j + 1, k, hk => by
    have hlt : k < fs.length := by omega
    have hd : fs.drop k = fs[k] :: fs.drop (k + 1) := by simp
    rw [hd]
    have hst : ∀ F, M_head_head_get_l0 F ((), n, (), (fs.length : Int), (k : Int), (m, p, b, (), ()), fs, ()) = if fs[k].1 = n then some (.inr (.inr ((), fs[k].2.1, true, (m, p, b, (), ()), fs, ()))) else some (.inl ((), n, (), (fs.length : Int), ((k + 1 : Nat) : Int), (m, p, b, (), ()), fs, ())) := by
      intro F
      unfold M_head_head_get_l0
      rw [if_pos (by simpa using hlt)]
      simp only [idxN fs k (k : Int) rfl hlt, Option.bind_some, next_nat k (by omega)]
      by_cases h : fs[k].1 = n
      · rw [if_pos (decide_eq_true h), if_pos h]
      · rw [if_neg (by simpa using h), if_neg h]
    by_cases h : fs[k].1 = n
    · have e : getP n (fs[k] :: fs.drop (k + 1)) = (fs[k].2.1, true) := by unfold getP; rw [if_pos h]
      rw [e]
      exact TendsL.fin (.of fun F => by rw [hst, if_pos h]; rfl)
    · have e : getP n (fs[k] :: fs.drop (k + 1)) = getP n (fs.drop (k + 1)) := by conv => lhs; unfold getP; rw [if_neg h]
      rw [e]
      exact TendsL.step (.of fun F => by rw [hst, if_neg h]) (get_loop n m p b fs hf j (k + 1) (by omega))
theorem getP_false {n : HB} : ∀ {fs : List HdF}, (getP n fs).2 = false → getP n fs = ([], false)
  | [], _ => rfl
  | f :: l, h => by
    unfold getP at h ⊢
    by_cases hq : f.1 = n
    · rw [if_pos hq] at h; cases h
    · rw [if_neg hq] at h ⊢; exact getP_false h
theorem get_t (n m p b : HB) (fs : List HdF) (hf : fs.length ≤ 1000000) : Tends (fun F => M_head_head_get F ((m, p, b, fs, ()), n)) (getP n fs, (m, p, b, fs, ())) := by
  have h := get_loop n m p b fs hf fs.length 0 (by omega)
  rw [List.drop_zero] at h
  unfold M_head_head_get
  refine Tends.bind h.run (.of fun F => ?_)
  cases hg : (getP n fs).2 with
  | true =>
    rw [if_pos rfl]
    simp only [sumC]
    rw [← hg]
  | false =>
    rw [if_neg (by simp), getP_false hg]
    rfl
def oneR (m p b : HB) (fs : List HdF) (x : HB) : Int × HB × HB × HB × List HdF × Unit := if (oneP vokH fs x).2 = 0 then (0, m, p, b, (oneP vokH fs x).1, ()) else ((oneP vokH fs x).2, m, p, b, fs, ())
theorem one_t (m p b : HB) (fs : List HdF) (hf : fs.length ≤ 100000) (x : HB) (hx : x.length ≤ 100000) : Tends (fun F => M_head_head_one F ((m, p, b, fs, ()), x)) (oneR m p b fs x) := by
  unfold M_head_head_one
  refine Tends.bind (.of fun F => cut_t F 58 x (by omega)) ?_
  obtain ⟨n0, v0, ok, hc, hn0, hv0⟩ : ∃ n0 v0 ok, cutR 58 x = (n0, v0, ok) ∧ n0.length ≤ x.length ∧ v0.length ≤ x.length := by
    unfold cutR
    cases hq : cutAt 58 x with
    | none => exact ⟨_, _, _, rfl, Nat.le_refl _, Nat.zero_le _⟩
    | some y =>
      obtain ⟨a, c⟩ := y
      obtain ⟨rfl, _⟩ := cutAt_some _ _ _ hq
      exact ⟨_, _, _, rfl, by simp, by simp; omega⟩
  rw [hc]
  refine Tends.bind (fold_t n0 (by omega)) (Tends.bind (.of fun F => trim_t F v0 (by omega)) ?_)
  have hfl : (foldB n0).length = n0.length := by unfold foldB; simp
  generalize hn : foldB n0 = n at hfl ⊢
  generalize hv : trimB v0 = v
  refine Tends.bind (Tends.orB (c := !ok) (d := decide (n = [])) (f := fun q => ((), n, v, q, (m, p, b, (), ()), fs, ())) (.ret _)) ?_
  refine Tends.bind (Tends.orB (c := !ok || decide (n = [])) (d := decide (20 < (n.length : Int))) (f := fun q => ((), n, v, q, (m, p, b, (), ()), fs, ())) (.ret _)) ?_
  refine Tends.bind (Tends.orB (c := !ok || decide (n = []) || decide (20 < (n.length : Int))) (d := !n.all ltrB) (f := fun q => ((), n, v, q, (m, p, b, (), ()), fs, ())) (.of fun F => ?_)) ?_
  · obtain ⟨r, h1, h2⟩ := ltr_t F n (by omega)
    show ((M_strings_Trim F (n, ltrS)).bind _) = _
    rw [h1, ← h2]
    rfl
  refine Tends.bind (Tends.orB (c := !ok || decide (n = []) || decide (20 < (n.length : Int)) || !n.all ltrB) (d := !vokH v) (f := fun q => ((), n, v, q, (m, p, b, (), ()), fs, ())) (Tends.bind (hright_t v) (.ret _))) ?_
  have hone : oneP vokH fs x = if (!ok || decide (n = []) || decide (20 < (n.length : Int)) || !n.all ltrB || !vokH v) = true then ([], 3) else if (getP n fs).2 = true then ([], 7) else (fs ++ [(n, v, ())], 0) := by
    unfold oneP
    unfold cutR at hc
    cases hq : cutAt 58 x with
    | none =>
      rw [hq] at hc
      simp only [Prod.mk.injEq] at hc
      obtain ⟨_, _, rfl⟩ := hc
      rfl
    | some y =>
      obtain ⟨a, c⟩ := y
      rw [hq] at hc
      simp only [Prod.mk.injEq] at hc
      obtain ⟨rfl, rfl, rfl⟩ := hc
      simp only [hn, hv]
      have e : (hnB n && vokH v) = !(!true || decide (n = []) || decide (20 < (n.length : Int)) || !n.all ltrB || !vokH v) := by
        unfold hnB
        rw [Bool.eq_iff_iff]
        simp only [Bool.and_eq_true, decide_eq_true_eq, Bool.not_eq_true', Bool.or_eq_false_iff, Bool.not_true, decide_eq_false_iff_not, Bool.not_eq_false', true_and]
        constructor
        · rintro ⟨⟨⟨h1, h2⟩, h3⟩, h4⟩
          exact ⟨⟨⟨by rintro rfl; simp at h2, by omega⟩, h1⟩, h4⟩
        · rintro ⟨⟨⟨h1, h2⟩, h3⟩, h4⟩
          exact ⟨⟨⟨h3, by cases n with | nil => exact absurd rfl h1 | cons c q => simp⟩, by omega⟩, h4⟩
      rw [e, getP_eq]
      generalize (!true || decide (n = []) || decide (20 < (n.length : Int)) || !n.all ltrB || !vokH v) = q
      cases q <;> simp
  unfold oneR
  rw [hone]
  cases hq : (!ok || decide (n = []) || decide (20 < (n.length : Int)) || !n.all ltrB || !vokH v) with
  | true => exact Tends.pos rfl (.ret _)
  | false =>
    refine Tends.neg (by simp) ?_
    refine Tends.bind (get_t n m p b fs (by omega)) ?_
    cases hg : (getP n fs).2 with
    | true => exact Tends.pos rfl (.ret _)
    | false =>
      refine Tends.neg (by simp) ?_
      refine Tends.bind (r := ((), (m, p, b, (), ()), fs ++ [(n, v, ())], ())) (Tends.pos (by simp; omega) (.ret _)) (.ret _)
/-! ### all of it -/
def readR (m p : HB) (r : (List HdF × HB) × Int) : (Bool × HB × HB × HB × List HdF × Unit) × Int × Unit := if r.2 = 0 then ((true, m, p, r.1.2, r.1.1, ()), 0, ()) else ((false, [], [], [], [], ()), r.2, ())
theorem lineP_len {s x r : HB} (h : lineP s = some (x, r)) : x.length ≤ s.length ∧ r.length < s.length := by
  obtain ⟨y, hy, rfl⟩ := lineP_some h
  obtain ⟨rfl, _⟩ := cutAt_some _ _ _ hy
  have := (noCR_len y).1
  simp
  omega
theorem read_loop (m p b : HB) : ∀ (n : Nat) (s : HB) (fs : List HdF), s.length < n → s.length ≤ 10000 → fs.length + n ≤ 50000 → TendsL M_head_read_l0 ((), s, (m, p, b, (), ()), fs, ()) (readR m p (fieldsP vokH n s fs))
  | 0, s, fs, h, _, _ => by omega
  | n + 1, s, fs, h, hs, hf => by
    have hl := fun F => line_t F s (by omega)
    unfold lineR at hl
    unfold fieldsP
    cases hq : lineP s with
    | none =>
      rw [hq] at hl
      refine TendsL.fin (.of fun F => ?_)
      unfold M_head_read_l0
      simp only [hl, Option.bind_some]
      rfl
    | some y =>
      obtain ⟨x, r⟩ := y
      rw [hq] at hl
      obtain ⟨hx, hr⟩ := lineP_len hq
      simp only
      by_cases hx0 : x = []
      · subst hx0
        refine TendsL.fin (.of fun F => ?_)
        unfold M_head_read_l0
        simp only [hl, Option.bind_some]
        rfl
      · rw [if_neg hx0]
        have ho := one_t m p b fs (by omega) x (by omega)
        unfold oneR at ho
        by_cases h0 : (oneP vokH fs x).2 = 0
        · rw [if_pos h0] at ho ⊢
          have hfl : (oneP vokH fs x).1.length = fs.length + 1 := by
            obtain ⟨_, _, _, _, e⟩ := oneP_zero h0
            rw [e]; simp
          refine TendsL.step (x' := ((), r, (m, p, b, (), ()), (oneP vokH fs x).1, ())) ?_ (read_loop m p b n r (oneP vokH fs x).1 (by omega) (by omega) (by omega))
          unfold M_head_read_l0
          refine Tends.bind (.of hl) (Tends.neg (by simp) (Tends.neg (by simpa using hx0) ?_))
          exact Tends.bind ho (Tends.neg (by simp) (.ret _))
        · rw [if_neg h0] at ho ⊢
          refine TendsL.fin ?_
          unfold M_head_read_l0 readR
          rw [if_neg h0]
          refine Tends.bind (.of hl) (Tends.neg (by simp) (Tends.neg (by simpa using hx0) ?_))
          exact Tends.bind ho (Tends.pos (by simpa using h0) (.ret _))
def readQ (s : HB) : (Bool × HB × HB × HB × List HdF × Unit) × Int := if (readP vokH s).2 = 0 then ((true, (readP vokH s).1.1, (readP vokH s).1.2.1, (readP vokH s).1.2.2.1, (readP vokH s).1.2.2.2, ()), 0) else ((false, [], [], [], [], ()), (readP vokH s).2)
theorem readQ_err (s : HB) : (readQ s).2 = (readP vokH s).2 := by
  unfold readQ; split
  · rename_i h; exact h.symm
  · rfl
theorem read_t (s : HB) (hs : s.length ≤ 10000) : Tends (fun F => M_head_read F s) (readQ s) := by
  unfold M_head_read readQ readP
  by_cases h6 : 600 < s.length
  · rw [if_pos h6]
    exact Tends.pos (by simp; omega) (.ret _)
  rw [if_neg h6]
  refine Tends.neg (by simp; omega) ?_
  have hl := fun F => line_t F s (by omega)
  unfold lineR at hl
  cases hq : lineP s with
  | none =>
    rw [hq] at hl
    refine Tends.bind (.of hl) ?_
    refine Tends.bind (r := ((), [], true, ([], [], [], (), ()), [], ())) (Tends.neg (by simp) (.ret _)) (Tends.pos rfl (.ret _))
  | some y =>
    obtain ⟨x, r⟩ := y
    rw [hq] at hl
    obtain ⟨hx, hr⟩ := lineP_len hq
    refine Tends.bind (.of hl) ?_
    have hf := first_t x (by omega) [] [] [] []
    refine Tends.bind (r := ((), r, !(firstR x).1, ((firstR x).2.1, (firstR x).2.2, [], (), ()), [], ())) (Tends.pos rfl (Tends.bind hf (.ret _))) ?_
    have hfp : firstP x = if (firstR x).1 = true then some ((firstR x).2.1, (firstR x).2.2) else none := by
      unfold firstP firstR
      cases cutAt 32 x with
      | none => rfl
      | some mp =>
        obtain ⟨m, p⟩ := mp
        by_cases hm : m = [] <;> by_cases hp : p = [] <;> simp [hm, hp]
    simp only
    rw [hfp]
    cases hb : (firstR x).1 with
    | false => exact Tends.pos rfl (.ret _)
    | true =>
      refine Tends.neg (by simp) ?_
      have h := read_loop (firstR x).2.1 (firstR x).2.2 [] (r.length + 1) r [] (by omega) (by omega) (by simp; omega)
      refine Tends.bind h.run (.of fun F => ?_)
      unfold readR
      by_cases h0 : (fieldsP vokH (r.length + 1) r []).2 = 0
      · simp [h0]
      · simp [h0]
theorem geto_loop (n : HB) (fs : List HdF) (hf : fs.length ≤ 1000000) : ∀ (j k : Nat), k + j = fs.length →
    TendsL M_head_get_o_l0 (n, fs, (fs.length : Int), (k : Int), ()) (if (getP n (fs.drop k)).2 = true then .inr ((getP n (fs.drop k)).1, true, ()) else .inl ())
  | 0, k, hk => by
    refine TendsL.fin (.of fun F => ?_)
    unfold M_head_get_o_l0
    rw [List.drop_of_length_le (by omega), if_neg (by simp; omega)]
    rfl
  | j + 1, k, hk => by
    have hlt : k < fs.length := by omega
    have hd : fs.drop k = fs[k] :: fs.drop (k + 1) := by simp
    rw [hd]
    have hst : ∀ F, M_head_get_o_l0 F (n, fs, (fs.length : Int), (k : Int), ()) = if fs[k].1 = n then some (.inr (.inr (fs[k].2.1, true, ()))) else some (.inl (n, fs, (fs.length : Int), ((k + 1 : Nat) : Int), ())) := by
      intro F
      unfold M_head_get_o_l0
      rw [if_pos (by simpa using hlt)]
      simp only [idxN fs k (k : Int) rfl hlt, Option.bind_some, next_nat k (by omega)]
      by_cases h : fs[k].1 = n
      · rw [if_pos (decide_eq_true h), if_pos h]
      · rw [if_neg (by simpa using h), if_neg h]
    by_cases h : fs[k].1 = n
    · have e : getP n (fs[k] :: fs.drop (k + 1)) = (fs[k].2.1, true) := by unfold getP; rw [if_pos h]
      rw [e]
      exact TendsL.fin (.of fun F => by rw [hst, if_pos h]; rfl)
    · have e : getP n (fs[k] :: fs.drop (k + 1)) = getP n (fs.drop (k + 1)) := by conv => lhs; unfold getP; rw [if_neg h]
      rw [e]
      exact TendsL.step (.of fun F => by rw [hst, if_neg h]) (geto_loop n fs hf j (k + 1) (by omega))
theorem geto_t (n m p b : HB) (fs : List HdF) (hf : fs.length ≤ 1000000) : Tends (fun F => M_head_get_o F ((true, m, p, b, fs, ()), n)) (getP n fs) := by
  have h := geto_loop n fs hf fs.length 0 (by omega)
  rw [List.drop_zero] at h
  unfold M_head_get_o
  refine Tends.pos rfl (Tends.bind h.run (.of fun F => ?_))
  cases hg : (getP n fs).2 with
  | true =>
    rw [if_pos rfl]
    simp only [sumC]
    rw [← hg]
  | false =>
    rw [if_neg (by simp), getP_false hg]
    rfl
theorem fields_len {vok : HB → Bool} : ∀ (n : Nat) (s : HB) (fs : List HdF), (fieldsP vok n s fs).2 = 0 → (fieldsP vok n s fs).1.1.length ≤ fs.length + n
  | 0, s, fs, h => by cases h
  | n + 1, s, fs, h => by
    unfold fieldsP at h ⊢
    cases hq : lineP s with
    | none => rw [hq] at h; cases h
    | some y =>
      obtain ⟨x, r⟩ := y
      rw [hq] at h
      simp only at h ⊢
      by_cases hx : x = []
      · rw [if_pos hx]; simp
      · rw [if_neg hx] at h ⊢
        by_cases h0 : (oneP vok fs x).2 = 0
        · rw [if_pos h0] at h ⊢
          have := fields_len n r _ h
          obtain ⟨_, _, _, _, e⟩ := oneP_zero h0
          have hl : (oneP vok fs x).1.length = fs.length + 1 := by rw [e]; simp
          omega
        · rw [if_neg h0] at h
          exact absurd h h0
theorem read_len {vok : HB → Bool} {s : HB} (h : (readP vok s).2 = 0) : (readP vok s).1.2.2.2.length ≤ 601 := by
  by_cases h6 : 600 < s.length
  · unfold readP at h; rw [if_pos h6] at h; cases h
  obtain ⟨x, r, m, p, hl, _, h0, e⟩ := readP_zero h
  have := fields_len _ _ _ h0
  have h2 := (lineP_len hl).2
  rw [e]
  simp at this ⊢
  omega
theorem parse_t (s : HB) (hs : s.length ≤ 10000) : Tends (fun F => M_head_Parse F s) (parseH vokH s) := by
  unfold M_head_Parse parseH
  refine Tends.bind (read_t s hs) ?_
  by_cases he : (readP vokH s).2 = 0
  case neg =>
    rw [if_pos he]
    have := readQ_err s
    exact Tends.pos (by rw [this]; simpa using he) (.of fun F => by rw [this])
  rw [if_neg (by simpa using he)]
  have hfl := read_len he
  have hq : readQ s = ((true, (readP vokH s).1.1, (readP vokH s).1.2.1, (readP vokH s).1.2.2.1, (readP vokH s).1.2.2.2, ()), 0) := by unfold readQ; rw [if_pos he]
  rw [hq]
  generalize readP vokH s = R at hfl ⊢
  obtain ⟨⟨m, p, b, fs⟩, e⟩ := R
  dsimp only at hfl ⊢
  refine Tends.neg (by simp) (Tends.bind (geto_t wKey m p b fs (by omega)) ?_)
  cases hk : (getP wKey fs).2 with
  | false => exact Tends.eq (r := (zHdR, 6)) (Tends.pos rfl (.ret _)) (by simp)
  | true =>
    refine Tends.neg (by simp) ?_
    refine Tends.bind (r := ((), (true, m, p, b, fs, ()), (), (0, 0, 0, [], [], [], [], ()), (0, 0, 0, (getP wKey fs).1, m, p, b, ()), ())) (Tends.pos rfl (Tends.pos rfl (Tends.pos rfl (.ret _)))) ?_
    refine Tends.bind (geto_t wTen m p b fs (by omega)) ?_
    cases ht : (getP wTen fs).2 with
    | false =>
      refine Tends.eq (r := ((0, 0, 0, (getP wKey fs).1, m, p, b, ()), 0)) ?_ (by simp)
      refine Tends.bind (r := .inl ((), (), (0, 0, 0, [], [], [], [], ()), (0, 0, 0, (getP wKey fs).1, m, p, b, ()), ())) (Tends.neg (by simp) (.ret _)) (.of fun F => rfl)
    | true =>
      generalize (getP wTen fs).1 = t at *
      by_cases h1 : t.length = 1
      · obtain ⟨c, rfl⟩ : ∃ c, t = [c] := by
          match t, h1 with
          | [c], _ => exact ⟨c, rfl⟩
        have hi : idx [c] (0 : Int) = some c := rfl
        by_cases hlo : 48 ≤ c.toNat
        · by_cases hhi : c.toNat ≤ 51
          · refine Tends.eq (r := ((0, 0, (c.toNat : Int) - 48, (getP wKey fs).1, m, p, b, ()), 0)) ?_ (by simp [hlo, hhi])
            have hw : IntKind.i64.wrap (IntKind.u8.wrap ((c.toNat : Int) - 48)) = (c.toNat : Int) - 48 := by
              have := (show ∀ c : Fin 256, (48 ≤ c.val ∧ c.val ≤ 51) → IntKind.i64.wrap (IntKind.u8.wrap (((c.val : Nat) : Int) - 48)) = ((c.val : Nat) : Int) - 48 by decide +kernel) ⟨c.toNat, c.toNat_lt⟩ ⟨hlo, hhi⟩
              exact this
            refine Tends.bind (r := .inl ((), (), (0, 0, 0, [], [], [], [], ()), (0, 0, (c.toNat : Int) - 48, (getP wKey fs).1, m, p, b, ()), ())) (Tends.pos rfl ?_) (.of fun F => rfl)
            refine Tends.bind (r := ((), (), [c], false, (0, 0, 0, [], [], [], [], ()), (0, 0, 0, (getP wKey fs).1, m, p, b, ()), ())) (Tends.pos (by simp) (Tends.bind (.of fun F => hi) (.of fun F => by simp; omega))) ?_
            refine Tends.bind (r := ((), (), [c], false, (0, 0, 0, [], [], [], [], ()), (0, 0, 0, (getP wKey fs).1, m, p, b, ()), ())) (Tends.pos rfl (Tends.bind (.of fun F => hi) (.of fun F => by simp; omega))) ?_
            refine Tends.neg (by simp) (Tends.bind (.of fun F => hi) (.of fun F => by simp only [hw]))
          · refine Tends.eq (r := (zHdR, 1)) ?_ (by simp [hlo, hhi])
            refine Tends.bind (r := .inr ((), 1, (0, 0, 0, [], [], [], [], ()), ())) (Tends.pos rfl ?_) (.of fun F => rfl)
            refine Tends.bind (r := ((), (), [c], false, (0, 0, 0, [], [], [], [], ()), (0, 0, 0, (getP wKey fs).1, m, p, b, ()), ())) (Tends.pos (by simp) (Tends.bind (.of fun F => hi) (.of fun F => by simp; omega))) ?_
            refine Tends.bind (r := ((), (), [c], true, (0, 0, 0, [], [], [], [], ()), (0, 0, 0, (getP wKey fs).1, m, p, b, ()), ())) (Tends.pos rfl (Tends.bind (.of fun F => hi) (.of fun F => by simp; omega))) ?_
            exact Tends.pos rfl (.ret _)
        · refine Tends.eq (r := (zHdR, 1)) ?_ (by simp [hlo])
          refine Tends.bind (r := .inr ((), 1, (0, 0, 0, [], [], [], [], ()), ())) (Tends.pos rfl ?_) (.of fun F => rfl)
          refine Tends.bind (r := ((), (), [c], true, (0, 0, 0, [], [], [], [], ()), (0, 0, 0, (getP wKey fs).1, m, p, b, ()), ())) (Tends.pos (by simp) (Tends.bind (.of fun F => hi) (.of fun F => by simp; omega))) ?_
          refine Tends.bind (r := ((), (), [c], true, (0, 0, 0, [], [], [], [], ()), (0, 0, 0, (getP wKey fs).1, m, p, b, ()), ())) (Tends.neg (by simp) (.ret _)) ?_
          exact Tends.pos rfl (.ret _)
      · refine Tends.eq (r := (zHdR, 1)) ?_ (by
          match t, h1 with
          | [], _ => rfl
          | a :: b :: r, _ => rfl)
        refine Tends.bind (r := .inr ((), 1, (0, 0, 0, [], [], [], [], ()), ())) (Tends.pos rfl ?_) (.of fun F => rfl)
        refine Tends.bind (r := ((), (), t, true, (0, 0, 0, [], [], [], [], ()), (0, 0, 0, (getP wKey fs).1, m, p, b, ()), ())) (Tends.neg (by simp; omega) (.ret _)) ?_
        refine Tends.bind (r := ((), (), t, true, (0, 0, 0, [], [], [], [], ()), (0, 0, 0, (getP wKey fs).1, m, p, b, ()), ())) (Tends.neg (by simp) (.ret _)) ?_
        exact Tends.pos rfl (.ret _)
end Go.Vm
