/- JSON, plainly: numbers. What is printed is read; what is read is of 15 digits, and is printed in no more bytes. No condition. -/
import Derived.Test.YtgejjocbhonkjaaDoorPj3
namespace Go.Vm
open Go.Lib (decodeL decDigits itoa nDigits)
set_option linter.unusedVariables false
set_option linter.unusedSimpArgs false

theorem digs_prefix (s : By) : digs s = s.take (digs s).length := by
  unfold digs
  cases s with
  | nil => rfl
  | cons c r =>
    simp only
    split
    · rename_i h; subst h; rfl
    · have := List.takeWhile_prefix isDig (l := c :: r)
      rw [List.length_take]
      have e : List.takeWhile isDig (c :: r) = (c :: r).take (List.takeWhile isDig (c :: r)).length := (List.prefix_iff_eq_take.1 this)
      conv => lhs; rw [e]
      rw [List.take_take]
theorem digs_len (s : By) : (digs s).length ≤ 15 ∧ (digs s).length ≤ s.length := by
  refine ⟨?_, ?_⟩
  · unfold digs
    cases s with
    | nil => simp
    | cons c r =>
      simp only
      split
      · simp
      · simp; omega
  · have := congrArg List.length (digs_prefix s)
    simp only [List.length_take] at this
    omega
theorem digs_dig (s : By) : ∀ c ∈ digs s, isDig c = true := by
  unfold digs
  cases s with
  | nil => simp
  | cons c r =>
    simp only
    split
    · intro x hx; simp at hx; subst hx; rfl
    · intro x hx
      have := List.all_takeWhile (p := isDig) (l := c :: r)
      rw [List.all_eq_true] at this
      exact this x (List.mem_of_mem_take hx)

theorem valD_snoc (l : By) (c : UInt8) : valD (l ++ [c]) = valD l * 10 + (c.toNat - 48) := by unfold valD; rw [List.foldl_append]; rfl
theorem valD_lt (l : By) (h : ∀ c ∈ l, isDig c = true) : valD l < 10 ^ l.length := by
  have main : ∀ (l : By) (n k : Nat), (∀ c ∈ l, isDig c = true) → n < 10 ^ k → l.foldl (fun n c => n * 10 + (c.toNat - 48)) n < 10 ^ (k + l.length) := by
    intro l
    induction l with
    | nil => intro n k _ h; simpa using h
    | cons c l ih =>
      intro n k hd h
      have hc := hd c (List.mem_cons_self ..)
      simp [isDig] at hc
      have := ih (n * 10 + (c.toNat - 48)) (k + 1) (fun x hx => hd x (List.mem_cons_of_mem _ hx)) (by rw [Nat.pow_succ]; omega)
      rw [List.length_cons, List.foldl_cons, show k + (l.length + 1) = k + 1 + l.length by omega]
      exact this
  have := main l 0 0 h (by decide)
  rw [Nat.zero_add] at this
  exact this
theorem nDigits_le : ∀ (k u : Nat), 1 ≤ k → u < 10 ^ k → nDigits u ≤ k
  | 0, u, h, _ => by omega
  | 1, u, _, h => by rw [Go.Lib.nDigits_small (by simpa using h)]; exact Nat.le_refl _
  | k + 2, u, _, h => by
    by_cases hu : u < 10
    · rw [Go.Lib.nDigits_small hu]; omega
    · rw [Go.Lib.nDigits_big hu]
      have := nDigits_le (k + 1) (u / 10) (by omega) (by rw [Nat.pow_succ] at h; omega)
      omega

theorem itoa_len (u k : Nat) (h : 1 ≤ k) (hu : u < 10 ^ k) : (itoa (u : Int)).length ≤ k ∧ (itoa (-(u : Int))).length ≤ k + 1 := by
  have h1 := nDigits_le k u h hu
  unfold itoa
  constructor
  · rw [if_neg (by omega), Int.toNat_natCast, Go.Lib.decDigits_length]
    exact h1
  · split
    · rw [List.length_cons, Go.Lib.decDigits_length]
      have : (-(u : Int)).natAbs = u := by omega
      rw [this]; omega
    · rename_i hn
      have : (-(u : Int)).toNat = 0 := by omega
      rw [this, Go.Lib.decDigits_length]
      rw [Go.Lib.nDigits_small (by decide)]
      omega

def okN (n : Int) : Prop := -1000000000000000 < n ∧ n < 1000000000000000
theorem p15 : 10 ^ 15 = 1000000000000000 := by decide
theorem digs_val (s : By) : valD (digs s) < 1000000000000000 := by
  have h1 := valD_lt (digs s) (digs_dig s)
  have h2 : 10 ^ (digs s).length ≤ 10 ^ 15 := Nat.pow_le_pow_right (by decide) (digs_len s).1
  rw [p15] at h2
  omega
theorem digs_itoa (s : By) (h : digs s ≠ []) : (itoa (valD (digs s) : Int)).length ≤ (digs s).length ∧ (itoa (-(valD (digs s) : Int))).length ≤ (digs s).length + 1 :=
  itoa_len _ _ (by have := List.length_pos_iff.2 h; omega) (valD_lt _ (digs_dig s))
theorem num_ok {s r : By} {n : Int} (h : numP s = some (n, r)) : okN n ∧ r <:+ s ∧ (itoa n).length + r.length ≤ s.length ∧ r.length < s.length := by
  unfold numP at h
  split at h
  · cases h
  · rename_i c t
    split at h
    · split at h
      · cases h
      · rename_i hne
        cases h
        have h1 := digs_val t
        have h2 := digs_itoa t hne
        have h3 := digs_len t
        exact ⟨⟨by omega, by omega⟩, (List.drop_suffix _ _).trans (List.suffix_cons _ _), by simp; omega, by simp; omega⟩
    · split at h
      · cases h
      · rename_i hne
        cases h
        have h1 := digs_val (c :: t)
        have h2 := digs_itoa (c :: t) hne
        have h3 := digs_len (c :: t)
        have h4 := List.length_pos_iff.2 hne
        simp only [List.length_cons] at h3
        exact ⟨⟨by omega, by omega⟩, List.drop_suffix _ _, by simp; omega, by simp; omega⟩

def Stop (r : By) : Prop := ∀ c q, r = c :: q → isDig c = false
theorem dec_facts (u : Nat) : (∀ c ∈ decDigits u, isDig c = true) ∧ valD (decDigits u) = u ∧ (u ≠ 0 → ∀ c q, decDigits u = c :: q → c ≠ 48) := by
  induction u using Nat.strongRecOn with
  | _ u ih =>
    rw [decDigits]
    split
    · rename_i h
      have e : (UInt8.ofNat (48 + u)).toNat = 48 + u := by simp; omega
      refine ⟨?_, ?_, ?_⟩
      · intro c hc; simp at hc; subst hc; simp [isDig]; omega
      · simp [valD]; omega
      · intro hu c q hq
        injection hq with hq _
        rw [← hq]
        intro hh
        have := congrArg UInt8.toNat hh
        rw [e] at this
        have : (48 : UInt8).toNat = 48 := rfl
        omega
    · rename_i h
      obtain ⟨i1, i2, i3⟩ := ih (u / 10) (by omega)
      have e : (UInt8.ofNat (48 + u % 10)).toNat = 48 + u % 10 := by simp; omega
      refine ⟨?_, ?_, ?_⟩
      · intro c hc
        rcases List.mem_append.1 hc with hc | hc
        · exact i1 c hc
        · simp at hc; subst hc; simp [isDig]; omega
      · rw [valD_snoc, i2, e]; omega
      · intro hu c q hq
        have hl := Go.Lib.decDigits_length (u / 10)
        have := Go.Lib.nDigits_pos (u / 10)
        cases hd : decDigits (u / 10) with
        | nil => rw [hd] at hl; simp at hl; omega
        | cons x l =>
          rw [hd] at hq
          injection hq with hq _
          rw [← hq]
          exact i3 (by omega) x l hd
theorem digs_dec (u : Nat) (hu : u < 1000000000000000) (r : By) (hr : Stop r) : digs (decDigits u ++ r) = decDigits u := by
  obtain ⟨f1, f2, f3⟩ := dec_facts u
  have hlen : (decDigits u).length ≤ 15 := by rw [Go.Lib.decDigits_length]; exact nDigits_le 15 u (by decide) (by rw [p15]; exact hu)
  have hp : 1 ≤ (decDigits u).length := by rw [Go.Lib.decDigits_length]; exact Go.Lib.nDigits_pos u
  by_cases h0 : u = 0
  · subst h0
    rw [Go.Lib.decDigits_one (by decide)]
    rfl
  cases hd : decDigits u with
  | nil => rw [hd] at hp; simp at hp
  | cons c q =>
    have hc := f3 h0 c q hd
    rw [hd] at f1 hlen
    unfold digs
    rw [List.cons_append]
    simp only
    rw [if_neg hc, ← List.cons_append, List.takeWhile_append_of_pos f1]
    have : List.takeWhile isDig r = [] := by
      cases r with
      | nil => rfl
      | cons x r' => rw [List.takeWhile_cons_of_neg]; rw [hr x r' rfl]; decide
    rw [this, List.append_nil, List.take_of_length_le hlen]
theorem dec_head (u : Nat) : ∃ c q, decDigits u = c :: q ∧ isDig c = true := by
  obtain ⟨f1, _⟩ := dec_facts u
  have hp : 1 ≤ (decDigits u).length := by rw [Go.Lib.decDigits_length]; exact Go.Lib.nDigits_pos u
  cases hd : decDigits u with
  | nil => rw [hd] at hp; simp at hp
  | cons c q => exact ⟨c, q, rfl, f1 c (by rw [hd]; exact List.mem_cons_self ..)⟩
theorem num_print (n : Int) (h : okN n) (r : By) (hr : Stop r) : numP (itoa n ++ r) = some (n, r) := by
  obtain ⟨h1, h2⟩ := h
  unfold itoa
  split
  · rename_i hn
    have e := digs_dec n.natAbs (by omega) r hr
    obtain ⟨c, q, hc, _⟩ := dec_head n.natAbs
    unfold numP
    rw [List.cons_append]
    simp only [if_true, e]
    rw [if_neg (by rw [hc]; simp), (dec_facts n.natAbs).2.1, List.drop_left' rfl]
    congr 2
    omega
  · rename_i hn
    have e := digs_dec n.toNat (by omega) r hr
    obtain ⟨c, q, hc, hd⟩ := dec_head n.toNat
    unfold numP
    have hc' : decDigits n.toNat ++ r = c :: (q ++ r) := by rw [hc]; rfl
    rw [hc']
    simp only
    rw [if_neg (by rintro rfl; exact absurd hd (by decide)), ← hc', e, if_neg (by rw [hc]; simp), (dec_facts n.toNat).2.1, List.drop_left' rfl]
    congr 2
    omega
theorem itoa_head (n : Int) : ∃ c q, itoa n = c :: q ∧ (c = 45 ∨ isDig c = true) := by
  unfold itoa
  split
  · exact ⟨_, _, rfl, .inl rfl⟩
  · obtain ⟨c, q, hc, hd⟩ := dec_head n.toNat
    exact ⟨c, q, hc, .inr hd⟩
end Go.Vm
