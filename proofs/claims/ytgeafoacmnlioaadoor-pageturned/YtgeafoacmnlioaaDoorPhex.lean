/- Digits of base 16 and back, plainly. No condition. -/
import Derived.Test.YtgeafoacmnlioaaDoorPbase
namespace Go.Vm
set_option linter.unusedVariables false
set_option linter.unusedSimpArgs false
def hxD (n : Nat) : UInt8 := UInt8.ofNat (if n < 10 then 48 + n else 87 + n)
def hexP : List UInt8 → List UInt8
  | [] => []
  | c :: s => hxD (c.toNat / 16) :: hxD (c.toNat % 16) :: hexP s
def uhD (c : UInt8) : Option Nat := if 48 ≤ c.toNat ∧ c.toNat ≤ 57 then some (c.toNat - 48) else if 97 ≤ c.toNat ∧ c.toNat ≤ 102 then some (c.toNat - 87) else none
def rawP : List UInt8 → Option (List UInt8)
  | [] => some []
  | [_] => none
  | a :: b :: s => match uhD a, uhD b with
    | some x, some y => (rawP s).map (UInt8.ofNat (x * 16 + y) :: ·)
    | _, _ => none
theorem uhD_hx : ∀ n : Fin 16, uhD (hxD n.val) = some n.val := by decide
theorem hx_uhD : ∀ c : Fin 256, (match uhD (UInt8.ofNat c.val) with | some n => decide (hxD n = UInt8.ofNat c.val) && decide (n < 16) | none => true) = true := by decide +kernel
theorem uhD_some {c : UInt8} {n : Nat} (h : uhD c = some n) : hxD n = c ∧ n < 16 := by
  have := hx_uhD ⟨c.toNat, c.toNat_lt⟩
  have e : UInt8.ofNat c.toNat = c := UInt8.ofNat_toNat
  simp only [e, h, Bool.and_eq_true, decide_eq_true_eq] at this
  exact this
theorem hex_len : ∀ s : List UInt8, (hexP s).length = 2 * s.length
  | [] => rfl
  | c :: s => by
    show (hexP s).length + 1 + 1 = 2 * (s.length + 1)
    rw [hex_len s]; omega
theorem byte_div (c : UInt8) : UInt8.ofNat (c.toNat / 16 * 16 + c.toNat % 16) = c := by
  have : c.toNat / 16 * 16 + c.toNat % 16 = c.toNat := by omega
  rw [this]
  exact UInt8.ofNat_toNat
theorem raw_hex : ∀ s : List UInt8, rawP (hexP s) = some s
  | [] => rfl
  | c :: s => by
    have h1 := uhD_hx ⟨c.toNat / 16, by have := c.toNat_lt; omega⟩
    have h2 := uhD_hx ⟨c.toNat % 16, by omega⟩
    show rawP (hxD (c.toNat / 16) :: hxD (c.toNat % 16) :: hexP s) = _
    unfold rawP
    simp only at h1 h2
    simp only [h1, h2, raw_hex s, Option.map_some, byte_div]
theorem ofNat_toNat {x y : Nat} (hx : x < 16) (hy : y < 16) : (UInt8.ofNat (x * 16 + y)).toNat = x * 16 + y := by
  rw [UInt8.toNat_ofNat']
  omega
theorem hex_raw : ∀ (t s : List UInt8), rawP t = some s → hexP s = t
  | [], s, h => by
    have : s = [] := by simpa [rawP] using h.symm
    subst this; rfl
  | [_], s, h => by simp [rawP] at h
  | a :: b :: t, s, h => by
    unfold rawP at h
    split at h
    · rename_i x y h1 h2
      obtain ⟨s', hs, rfl⟩ := Option.map_eq_some_iff.1 h
      obtain ⟨e1, l1⟩ := uhD_some h1
      obtain ⟨e2, l2⟩ := uhD_some h2
      show hxD ((UInt8.ofNat (x * 16 + y)).toNat / 16) :: hxD ((UInt8.ofNat (x * 16 + y)).toNat % 16) :: hexP s' = _
      rw [ofNat_toNat l1 l2, show (x * 16 + y) / 16 = x by omega, show (x * 16 + y) % 16 = y by omega, e1, e2, hex_raw t s' hs]
    · cases h
theorem hex_set : ∀ (s : List UInt8) (i : Nat) (d : UInt8) (n : Nat), i < (hexP s).length → uhD d = some n → (hexP s)[i]? ≠ some d → ∃ x, (∃ h : i / 2 < s.length, x ≠ s[i / 2]) ∧ rawP ((hexP s).set i d) = some (s.set (i / 2) x)
  | [], i, d, n, hi, hd, hne => by simp [hexP] at hi
  | c :: s, i, d, n, hi, hd, hne => by
    have h1 := uhD_hx ⟨c.toNat / 16, by have := c.toNat_lt; omega⟩
    have h2 := uhD_hx ⟨c.toNat % 16, by omega⟩
    simp only at h1 h2
    obtain ⟨ed, hd16⟩ := uhD_some hd
    match i, hi, hne with
    | 0, hi, hne =>
      refine ⟨UInt8.ofNat (n * 16 + c.toNat % 16), ⟨by simp, fun e => ?_⟩, ?_⟩
      · have e2 : n * 16 + c.toNat % 16 = c.toNat := by
          have := congrArg UInt8.toNat e
          rw [ofNat_toNat hd16 (by omega)] at this
          simpa using this
        apply hne
        show some (hxD (c.toNat / 16)) = some d
        rw [show c.toNat / 16 = n by omega, ed]
      · show rawP (d :: hxD (c.toNat % 16) :: hexP s) = some (UInt8.ofNat (n * 16 + c.toNat % 16) :: s)
        unfold rawP
        simp only [hd, h2, raw_hex s, Option.map_some]
    | 1, hi, hne =>
      refine ⟨UInt8.ofNat (c.toNat / 16 * 16 + n), ⟨by simp, fun e => ?_⟩, ?_⟩
      · have e2 : c.toNat / 16 * 16 + n = c.toNat := by
          have := congrArg UInt8.toNat e
          rw [ofNat_toNat (by have := c.toNat_lt; omega) hd16] at this
          simpa using this
        apply hne
        show some (hxD (c.toNat % 16)) = some d
        rw [show c.toNat % 16 = n by omega, ed]
      · show rawP (hxD (c.toNat / 16) :: d :: hexP s) = some (UInt8.ofNat (c.toNat / 16 * 16 + n) :: s)
        unfold rawP
        simp only [hd, h1, raw_hex s, Option.map_some]
    | i + 2, hi, hne =>
      obtain ⟨x, ⟨hx, hxn⟩, hr⟩ := hex_set s i d n (by have : (hexP (c :: s)).length = (hexP s).length + 2 := rfl; omega) hd (by exact hne)
      have ei : (i + 2) / 2 = i / 2 + 1 := by omega
      refine ⟨x, ⟨by rw [ei]; simpa using hx, ?_⟩, ?_⟩
      · simp only [ei, List.getElem_cons_succ]; exact hxn
      · rw [ei]
        show rawP (hxD (c.toNat / 16) :: hxD (c.toNat % 16) :: (hexP s).set i d) = some (c :: s.set (i / 2) x)
        unfold rawP
        simp only [h1, h2, hr, Option.map_some, byte_div]
end Go.Vm
