/- Numbers read back: plain. No condition. -/
import Derived.Test.YtgeafoacmnlioaaDoorPnum
namespace Go.Vm
open Go Go.Proofs
set_option linter.unusedVariables false
def decGo : Nat → Nat → Bool → List UInt8 → Option (Nat × List UInt8)
  | 0, _, _, _ => none
  | _ + 1, _, _, [] => none
  | f + 1, acc, fst, c :: s => if fst = true ∧ c = 128 then none else if c.toNat < 128 then some (acc * 128 + c.toNat, s) else decGo f (acc * 128 + (c.toNat - 128)) false s
def decN (s : List UInt8) : Option (Nat × List UInt8) := decGo 9 0 true s
theorem numL_two (a c : Nat) (hc : c < 128) : numL (a * 128 + c) = hiL a ++ [UInt8.ofNat c] := by
  unfold numL
  rw [show (a * 128 + c) / 128 = a by omega, show (a * 128 + c) % 128 = c by omega]
theorem hiL_two (a d : Nat) (hd : d < 128) (h : a * 128 + d ≠ 0) : hiL (a * 128 + d) = hiL a ++ [UInt8.ofNat (d + 128)] := by
  rw [hiL_pos h, show (a * 128 + d) / 128 = a by omega, show (a * 128 + d) % 128 = d by omega]
theorem decGo_inv : ∀ (f acc : Nat) (fst : Bool) (s : List UInt8) (n : Nat) (r : List UInt8), (fst = true → acc = 0) → (fst = false → 0 < acc) → decGo f acc fst s = some (n, r) → hiL acc ++ s = numL n ++ r ∧ n < (acc + 1) * 128 ^ f
  | 0, _, _, _, _, _, _, _, h => by simp [decGo] at h
  | _ + 1, _, _, [], _, _, _, _, h => by simp [decGo] at h
  | f + 1, acc, fst, c :: s, n, r, h1, h2, h => by
    have hc := c.toNat_lt
    rw [decGo] at h
    split at h
    · cases h
    · rename_i hf
      split at h
      · rename_i hlt
        simp only [Option.some.injEq, Prod.mk.injEq] at h
        obtain ⟨rfl, rfl⟩ := h
        refine ⟨?_, ?_⟩
        · rw [numL_two acc c.toNat hlt]
          simp
        · have : 128 ≤ 128 ^ (f + 1) := by
            rw [Nat.pow_succ]
            have := Nat.one_le_two_pow (n := f)
            have h3 : 1 ≤ 128 ^ f := Nat.one_le_pow _ _ (by omega)
            omega
          calc acc * 128 + c.toNat < (acc + 1) * 128 := by omega
            _ ≤ (acc + 1) * 128 ^ (f + 1) := Nat.mul_le_mul_left _ this
      · rename_i hge
        have hpos : acc * 128 + (c.toNat - 128) ≠ 0 := by
          cases fst with
          | true =>
            have : c ≠ 128 := fun e => hf ⟨rfl, e⟩
            have : c.toNat ≠ 128 := fun e => this (UInt8.toNat_inj.1 e)
            omega
          | false => have := h2 rfl; omega
        obtain ⟨i1, i2⟩ := decGo_inv f _ false s n r (by simp) (fun _ => by omega) h
        rw [hiL_two acc (c.toNat - 128) (by omega) hpos, show c.toNat - 128 + 128 = c.toNat by omega] at i1
        refine ⟨by simpa using i1, Nat.lt_of_lt_of_le i2 ?_⟩
        rw [Nat.pow_succ, Nat.mul_comm (128 ^ f) 128, ← Nat.mul_assoc]
        exact Nat.mul_le_mul_right _ (by omega)
theorem decN_inv {s : List UInt8} {n : Nat} {r : List UInt8} (h : decN s = some (n, r)) : s = numL n ++ r ∧ n < 9223372036854775808 := by
  obtain ⟨h1, h2⟩ := decGo_inv 9 0 true s n r (fun _ => rfl) (by simp) h
  rw [hiL_zero] at h1
  exact ⟨by simpa using h1, by rw [p9] at h2; omega⟩
theorem hi_toNat (d : Nat) (hd : d < 128) : (UInt8.ofNat (d + 128)).toNat = d + 128 := by simp; omega
theorem lo_toNat (d : Nat) (hd : d < 128) : (UInt8.ofNat d).toNat = d := by simp; omega
theorem decGo_hi : ∀ (k m f : Nat) (t : List UInt8), m ≤ k → 0 < m → decGo (f + (hiL m).length) 0 true (hiL m ++ t) = decGo f m false t
  | 0, m, f, t, hk, hm => by omega
  | k + 1, m, f, t, hk, hm => by
    have e := hiL_pos (show m ≠ 0 by omega)
    have hd : m % 128 < 128 := Nat.mod_lt _ (by omega)
    have ht := hi_toNat (m % 128) hd
    by_cases h0 : m / 128 = 0
    · rw [h0, hiL_zero] at e
      rw [e]
      have hm128 : m % 128 = m := by omega
      show decGo (f + 1) 0 true (UInt8.ofNat (m % 128 + 128) :: t) = _
      rw [decGo, if_neg, if_neg (by rw [ht]; omega), ht]
      · rw [show 0 * 128 + (m % 128 + 128 - 128) = m by omega]
      · rintro ⟨_, h⟩
        have := congrArg UInt8.toNat h
        rw [ht] at this
        have h128 : (128 : UInt8).toNat = 128 := rfl
        omega
    · rw [e]
      have ih := decGo_hi k (m / 128) (f + 1) (UInt8.ofNat (m % 128 + 128) :: t) (by omega) (by omega)
      rw [List.append_assoc, List.length_append, List.length_singleton]
      rw [show f + ((hiL (m / 128)).length + 1) = f + 1 + (hiL (m / 128)).length by omega]
      show decGo _ 0 true (hiL (m / 128) ++ (UInt8.ofNat (m % 128 + 128) :: t)) = _
      rw [ih, decGo, if_neg (by simp), if_neg (by rw [ht]; omega), ht]
      rw [show m / 128 * 128 + (m % 128 + 128 - 128) = m by omega]
theorem decN_num (n : Nat) (r : List UInt8) (hn : n < 9223372036854775808) : decN (numL n ++ r) = some (n, r) := by
  have hd : n % 128 < 128 := Nat.mod_lt _ (by omega)
  have ht := lo_toNat (n % 128) hd
  unfold decN numL
  by_cases h0 : n / 128 = 0
  · rw [h0, hiL_zero]
    show decGo (8 + 1) 0 true (UInt8.ofNat (n % 128) :: r) = _
    rw [decGo, if_neg, if_pos (by rw [ht]; omega), ht]
    · rw [show 0 * 128 + n % 128 = n by omega]
    · rintro ⟨_, h⟩
      have := congrArg UInt8.toNat h
      rw [ht] at this
      have h128 : (128 : UInt8).toNat = 128 := rfl
      omega
  · have hl := hiL_len 8 (n / 128) (by rw [show (128 : Nat) ^ 8 = 72057594037927936 by decide]; omega)
    have h := decGo_hi (n / 128) (n / 128) (8 - (hiL (n / 128)).length + 1) (UInt8.ofNat (n % 128) :: r) (Nat.le_refl _) (by omega)
    rw [show 8 - (hiL (n / 128)).length + 1 + (hiL (n / 128)).length = 9 by omega] at h
    rw [List.append_assoc]
    show decGo 9 0 true (hiL (n / 128) ++ (UInt8.ofNat (n % 128) :: r)) = _
    rw [h, decGo, if_neg (by simp), if_pos (by rw [ht]; omega), ht]
    rw [show n / 128 * 128 + n % 128 = n by omega]
end Go.Vm
