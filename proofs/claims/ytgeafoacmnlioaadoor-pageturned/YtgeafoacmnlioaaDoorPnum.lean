/- Numbers as bytes, plainly: the program's and the document's are the same. No condition. -/
import Derived.Test.YtgeafoacmnlioaaDoorFpk
import Derived.Test.YtgeafoacmnlioaaDoorFnum
import Derived.Test.YtgeafoacmnlioaaDoorPbase
namespace Go.Vm
set_option linter.unusedVariables false
open Go
theorem p9 : 128 ^ 9 = 9223372036854775808 := by decide
theorem wrapB (n : Int) (h : 0 ≤ n) : IntKind.u8.wrap n = n % 256 := by
  simp only [IntKind.wrap, IntKind.signed, IntKind.bits]
  simp
theorem shr64 (n : Nat) (k : Nat) (m : Int) (hm : m = (k : Int)) (hk : k ≤ 64) : shr .i64 (n : Int) m = ((n / 2 ^ k : Nat) : Int) := by
  subst hm
  unfold shr
  have e : min (k : Int).toNat IntKind.i64.bits = k := by
    show min (k : Int).toNat 64 = k
    omega
  rw [e, Int.fdiv_eq_ediv_of_nonneg _ (Int.le_of_lt (Int.pow_pos (by decide)))]
  have : ((2 : Int) ^ k) = ((2 ^ k : Nat) : Int) := by push_cast; rfl
  rw [this]
  exact (Int.natCast_ediv n (2 ^ k)).symm
theorem and127 : ∀ k : Fin 256, iand .u8 ((k.val : Nat) : Int) 127 = ((k.val % 128 : Nat) : Int) := by decide +kernel
theorem or128 : ∀ k : Fin 128, ior .u8 ((k.val : Nat) : Int) 128 = ((k.val + 128 : Nat) : Int) := by decide +kernel
def hiL (m : Nat) : List UInt8 := if h : m = 0 then [] else hiL (m / 128) ++ [UInt8.ofNat (m % 128 + 128)]
termination_by m
decreasing_by omega
theorem hiL_zero : hiL 0 = [] := by rw [hiL]; simp
theorem hiL_pos {m : Nat} (h : m ≠ 0) : hiL m = hiL (m / 128) ++ [UInt8.ofNat (m % 128 + 128)] := by rw [hiL]; simp [h]
def numL (n : Nat) : List UInt8 := hiL (n / 128) ++ [UInt8.ofNat (n % 128)]
theorem hiL_len : ∀ (k m : Nat), m < 128 ^ k → (hiL m).length ≤ k
  | 0, m, h => by
    have : m = 0 := by simp at h; exact h
    subst this
    simp [hiL_zero]
  | k + 1, m, h => by
    by_cases hm : m = 0
    · subst hm; simp [hiL_zero]
    · rw [hiL_pos hm]
      have := hiL_len k (m / 128) (by rw [Nat.pow_succ] at h; omega)
      simp
      omega
theorem numL_len (n : Nat) (h : n ≤ 4611686018427387904) : (numL n).length ≤ 10 := by
  have := hiL_len 9 (n / 128) (by rw [p9]; omega)
  simp [numL]
  omega
theorem lastB (n : Nat) : UInt8.ofNat (iand .u8 (IntKind.u8.wrap (n : Int)) 127).toNat = UInt8.ofNat (n % 128) := by
  rw [wrapB _ (by omega)]
  have e : ((n : Int) % 256) = ((n % 256 : Nat) : Int) := by omega
  have := and127 ⟨n % 256, by omega⟩
  simp only at this
  rw [e, this]
  have : ((n % 256 % 128 : Nat) : Int).toNat = n % 128 := by omega
  rw [this]
theorem midB (n : Nat) : UInt8.ofNat (ior .u8 (iand .u8 (IntKind.u8.wrap (n : Int)) 127) 128).toNat = UInt8.ofNat (n % 128 + 128) := by
  rw [wrapB _ (by omega)]
  have e : ((n : Int) % 256) = ((n % 256 : Nat) : Int) := by omega
  have h1 := and127 ⟨n % 256, by omega⟩
  simp only at h1
  have h2 := or128 ⟨n % 256 % 128, by omega⟩
  simp only at h2
  rw [e, h1, h2]
  have : ((n % 256 % 128 + 128 : Nat) : Int).toNat = n % 128 + 128 := by omega
  rw [this]
theorem pow7 (k : Nat) : 2 ^ (7 * k) = 128 ^ k := by rw [Nat.pow_mul]
theorem num_count (n : Nat) (hn : n < 128 ^ 9) (b : List UInt8) : ∀ (m k : Nat), k + m = 8 → ∃ K, k ≤ K ∧ K ≤ 8 ∧ n / 128 ^ (K + 1) = 0 ∧ (∀ j, k < j → j ≤ K → n / 128 ^ j ≠ 0) ∧
    TendsL M_pack_Packer_Num_l0 ((), (n : Int), (k : Int), ((), false, ()), b, ()) ((), (n : Int), (K : Int), ((), false, ()), b, ())
  | m, k, h => by
    have e1 : IntKind.i64.wrap ((k : Int) + 1) = ((k + 1 : Nat) : Int) := by rw [wrap64] <;> omega
    have e2 : IntKind.i64.wrap (7 * ((k + 1 : Nat) : Int)) = ((7 * (k + 1) : Nat) : Int) := by rw [wrap64] <;> omega
    have e3 := shr64 n (7 * (k + 1)) ((7 * (k + 1) : Nat) : Int) rfl (by omega)
    rw [pow7] at e3
    have h0 : (0 : Int) ≤ ((7 * (k + 1) : Nat) : Int) := by omega
    by_cases hz : n / 128 ^ (k + 1) = 0
    · refine ⟨k, Nat.le_refl _, by omega, hz, fun j h1 h2 => by omega, TendsL.fin (.of fun F => ?_)⟩
      unfold M_pack_Packer_Num_l0
      simp only [e1, e2, e3, hz, h0, decide_true, if_true]
      rfl
    · have hm : 0 < m := by
        rcases Nat.eq_zero_or_pos m with h' | h'
        · subst h'
          exfalso
          have hk9 : k = 8 := by omega
          subst hk9
          apply hz
          exact Nat.div_eq_of_lt (Nat.lt_of_lt_of_le hn (Nat.pow_le_pow_right (by omega) (by omega)))
        · exact h'
      obtain ⟨m, rfl⟩ : ∃ m', m = m' + 1 := ⟨m - 1, by omega⟩
      obtain ⟨K, q1, q2, q3, q4, q5⟩ := num_count n hn b m (k + 1) (by omega)
      refine ⟨K, by omega, q2, q3, fun j h1 h2 => ?_, TendsL.step (.of fun F => ?_) q5⟩
      · by_cases hj : j = k + 1
        · rw [hj]; exact hz
        · exact q4 j (by omega) h2
      · have hp : (0 : Int) < ((n / 128 ^ (k + 1) : Nat) : Int) := by have := Nat.pos_of_ne_zero hz; omega
        unfold M_pack_Packer_Num_l0
        simp only [e1, e2, e3, hp, h0, decide_true, if_true]
theorem num_write (n : Nat) (b : List UInt8) (hb : b.length ≤ 1000000000000) : ∀ (k : Nat), k ≤ 8 → (∀ j, 1 ≤ j → j ≤ k → n / 128 ^ j ≠ 0) → (hiL (n / 128 ^ (k + 1))).length ≤ 9 - k →
    TendsL M_pack_Packer_Num_l1 ((), (n : Int), (k : Int), ((), false, ()), b ++ hiL (n / 128 ^ (k + 1)), ()) ((), (n : Int), ((), false, ()), b ++ hiL (n / 128), ())
  | 0, h, hj, hl => by
    refine TendsL.fin (.of fun F => ?_)
    unfold M_pack_Packer_Num_l1
    refine (if_neg (by simp)).trans ?_
    simp
  | k + 1, h, hj, hl => by
    have e2 : IntKind.i64.wrap (7 * ((k + 1 : Nat) : Int)) = ((7 * (k + 1) : Nat) : Int) := by rw [wrap64] <;> omega
    have e3 := shr64 n (7 * (k + 1)) ((7 * (k + 1) : Nat) : Int) rfl (by omega)
    rw [pow7] at e3
    have e4 : IntKind.i64.wrap (((k + 1 : Nat) : Int) - 1) = (k : Int) := by rw [wrap64] <;> omega
    have hne := hj (k + 1) (by omega) (Nat.le_refl _)
    have hhi := hiL_pos hne
    have hdiv : n / 128 ^ (k + 1) / 128 = n / 128 ^ (k + 1 + 1) := by rw [Nat.div_div_eq_div_mul, ← Nat.pow_succ]
    rw [hdiv] at hhi
    have ih := num_write n b hb k (by omega) (fun j h1 h2 => hj j h1 (by omega)) (by rw [hhi]; simp; omega)
    refine TendsL.step (.of fun F => ?_) ih
    have h0 : (0 : Int) ≤ ((7 * (k + 1) : Nat) : Int) := by omega
    have hp : (0 : Int) < ((k + 1 : Nat) : Int) := by omega
    unfold M_pack_Packer_Num_l1
    simp only [e2, e3, e4, hp, h0, decide_true, if_true, midB]
    rw [if_pos (by simp; omega), hhi, List.append_assoc]
theorem pnum_tends (b : List UInt8) (hb : b.length ≤ 1000000000000) (n : Nat) (hn : n ≤ 4611686018427387904) : Tends (fun F => M_pack_Packer_Num F ((b, false, ()), (n : Int))) ((), (b ++ numL n, false, ())) := by
  obtain ⟨K, q1, q2, q3, q4, q5⟩ := num_count n (by rw [p9]; omega) b 8 0 rfl
  have hw := num_write n b hb K q2 (fun j h1 h2 => q4 j (by omega) h2) (by rw [q3, hiL_zero]; simp)
  rw [q3, hiL_zero, List.append_nil] at hw
  unfold M_pack_Packer_Num
  refine Tends.bind (r := ((), (n : Int), false, ((), false, ()), b, ())) (.of fun F => ?_) ?_
  · refine (if_pos (by simp)).trans ?_
    have : decide ((4611686018427387904 : Int) < (n : Int)) = false := by simp; omega
    rw [this]
  refine Tends.neg (by simp) ?_
  refine Tends.bind q5.run ?_
  refine Tends.bind hw.run ?_
  refine Tends.of fun F => ?_
  have hl : (hiL (n / 128)).length ≤ 9 := hiL_len 9 _ (by rw [p9]; omega)
  simp only [lastB]
  rw [if_pos (by simp; omega)]
  simp [numL]
theorem ref_digits (out : List UInt8) (hb : out.length ≤ 1000000000000) : ∀ (k m : Nat), m < 128 ^ k → k ≤ 9 → ∀ out : List UInt8, out.length + k ≤ 1000000000000 → TendsL M_conciergeref01_Num_l0 ((m : Int), out, ()) (hiL m ++ out, ())
  | 0, m, h, hk, out, ho => by
    have : m = 0 := by simp at h; exact h
    subst this
    refine TendsL.fin (.of fun F => ?_)
    unfold M_conciergeref01_Num_l0
    refine (if_neg (by simp)).trans ?_
    simp [hiL_zero]
  | k + 1, m, h, hk, out, ho => by
    by_cases hm : m = 0
    · subst hm
      refine TendsL.fin (.of fun F => ?_)
      unfold M_conciergeref01_Num_l0
      refine (if_neg (by simp)).trans ?_
      simp [hiL_zero]
    · have hlt : m < 128 ^ 9 := Nat.lt_of_lt_of_le h (Nat.pow_le_pow_right (by omega) hk)
      have hlt : m < 9223372036854775808 := by rw [p9] at hlt; omega
      have e1 : (m : Int).tmod 128 = ((m % 128 : Nat) : Int) := by rw [Int.tmod_eq_emod_of_nonneg (by omega)]; omega
      have e2 : IntKind.i64.wrap (((m % 128 : Nat) : Int) + 128) = ((m % 128 + 128 : Nat) : Int) := by rw [wrap64] <;> omega
      have e3 : IntKind.u8.wrap ((m % 128 + 128 : Nat) : Int) = ((m % 128 + 128 : Nat) : Int) := by rw [wrapB _ (by omega)]; omega
      have e4 : (m : Int).tdiv 128 = ((m / 128 : Nat) : Int) := by rw [Int.tdiv_eq_ediv_of_nonneg (by omega)]; omega
      have e5 : IntKind.i64.wrap ((m / 128 : Nat) : Int) = ((m / 128 : Nat) : Int) := by rw [wrap64] <;> omega
      have hp : (0 : Int) < (m : Int) := by omega
      have ih := ref_digits out (by omega) k (m / 128) (by rw [Nat.pow_succ] at h; omega) (by omega) ([UInt8.ofNat (m % 128 + 128)] ++ out) (by simp; omega)
      rw [← List.append_assoc, ← hiL_pos hm] at ih
      refine TendsL.step (.of fun F => ?_) ih
      unfold M_conciergeref01_Num_l0
      simp only [hp, decide_true, if_true, e1, e2, e3, e4, e5, Int.toNat_natCast]
      rw [if_pos (by simp; omega)]
theorem rnum_tends (n : Nat) (hn : n ≤ 4611686018427387904) : Tends (fun F => M_conciergeref01_Num F (n : Int)) (numL n) := by
  have e1 : (n : Int).tmod 128 = ((n % 128 : Nat) : Int) := by rw [Int.tmod_eq_emod_of_nonneg (by omega)]; omega
  have e3 : IntKind.u8.wrap ((n % 128 : Nat) : Int) = ((n % 128 : Nat) : Int) := by rw [wrapB _ (by omega)]; omega
  have e4 : (n : Int).tdiv 128 = ((n / 128 : Nat) : Int) := by rw [Int.tdiv_eq_ediv_of_nonneg (by omega)]; omega
  have e5 : IntKind.i64.wrap ((n / 128 : Nat) : Int) = ((n / 128 : Nat) : Int) := by rw [wrap64] <;> omega
  unfold M_conciergeref01_Num
  simp only [e1, e3, e4, e5, Int.toNat_natCast]
  have h := ref_digits [UInt8.ofNat (n % 128)] (by simp) 9 (n / 128) (by rw [p9]; omega) (by omega) [UInt8.ofNat (n % 128)] (by simp)
  exact Tends.bind h.run (.ret _)
end Go.Vm
