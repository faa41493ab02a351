/- Check sums: the document's. No condition. -/
import Derived.Test.YtgeafoacmnlioaaDoorPcrc
import Derived.Test.YtgeafoacmnlioaaDoorFref2
namespace Go.Vm
set_option linter.unusedVariables false
set_option linter.unusedSimpArgs false
open Go
theorem rnd_xor (st y : Nat) : rnd (st ^^^ y) = (if (y % 2 ^^^ st % 2) = 1 then st / 2 ^^^ 3988292384 else st / 2) ^^^ y / 2 := by
  unfold rnd
  have h1 : (st ^^^ y) % 2 = (y % 2 ^^^ st % 2) := by
    have := Nat.xor_mod_two_pow (a := st) (b := y) (n := 1)
    rw [Nat.pow_one] at this
    rw [this, Nat.xor_comm]
  have h2 : (st ^^^ y) / 2 = st / 2 ^^^ y / 2 := by
    have := Nat.xor_div_two_pow (a := st) (b := y) (n := 1)
    rw [Nat.pow_one] at this
    exact this
  rw [h1, h2]
  by_cases h : (y % 2 ^^^ st % 2) = 1
  · rw [if_pos h, if_pos h, Nat.xor_assoc, Nat.xor_comm (y / 2), ← Nat.xor_assoc]
  · rw [if_neg h, if_neg h]
theorem r2_loop (s : List UInt8) (i : Nat) (hi : i < s.length) : ∀ (m k st : Nat), k + m = 8 → st < 4294967296 → TendsL M_conciergeref02_Of_l0 (s, (st : Int), (i : Int), (k : Int), ()) (s, ((rndN m (st ^^^ s[i].toNat / 2 ^ k) : Nat) : Int), (i : Int), ())
  | 0, k, st, hk, hx => by
    refine TendsL.fin (.of fun F => ?_)
    unfold M_conciergeref02_Of_l0
    have hb := s[i].toNat_lt
    have h0 : s[i].toNat / 2 ^ k = 0 := Nat.div_eq_of_lt (by rw [show k = 8 by omega]; omega)
    rw [if_neg (by simp; omega), h0, Nat.xor_zero]
    rfl
  | m + 1, k, st, hk, hx => by
    have hb := s[i].toNat_lt
    obtain ⟨y, hy⟩ : ∃ y, y = s[i].toNat / 2 ^ k := ⟨_, rfl⟩
    have hyl : y < 4294967296 := by rw [hy]; exact Nat.lt_of_le_of_lt (Nat.div_le_self _ _) (byte_lt _)
    have hy2 : s[i].toNat / 2 ^ (k + 1) = y / 2 := by rw [hy, Nat.pow_succ, Nat.div_div_eq_div_mul]
    obtain ⟨st', hst'⟩ : ∃ z, z = (if (y % 2 ^^^ st % 2) = 1 then st / 2 ^^^ 3988292384 else st / 2) := ⟨_, rfl⟩
    have hl : st' < 4294967296 := by
      rw [hst']
      split
      · exact Nat.xor_lt_two_pow (n := 32) (by omega) (by omega)
      · omega
    have ih := r2_loop s i hi m (k + 1) st' (by omega) hl
    rw [hy2, hst', ← rnd_xor, ← hst'] at ih
    rw [← hy]
    refine TendsL.step (.of fun F => ?_) ih
    have e0 : idx s (i : Int) = some s[i] := idxN s i _ rfl hi
    have e1 : IntKind.u32.wrap (s[i].toNat : Int) = (s[i].toNat : Int) := wrapU32 _ (by omega) (by omega)
    have e2 : shr .u32 (s[i].toNat : Int) (k : Int) = (y : Int) := by rw [hy]; exact shrU32 s[i].toNat k _ _ rfl (by omega) rfl
    have e3 : (y : Int).tmod 2 = ((y % 2 : Nat) : Int) := (Int.ofNat_tmod y 2).symm
    have e4 : (st : Int).tmod 2 = ((st % 2 : Nat) : Int) := (Int.ofNat_tmod st 2).symm
    have e5 : (st : Int).tdiv 2 = ((st / 2 : Nat) : Int) := (Int.ofNat_tdiv st 2).symm
    have e6 : IntKind.u32.wrap ((st / 2 : Nat) : Int) = ((st / 2 : Nat) : Int) := wrapU32 _ (by omega) (by omega)
    have e7 : ixor .u32 ((y % 2 : Nat) : Int) ((st % 2 : Nat) : Int) = ((y % 2 ^^^ st % 2 : Nat) : Int) := ixorU32 _ _ (by omega) (by omega)
    have e8 : ixor .u32 ((st / 2 : Nat) : Int) 3988292384 = ((st / 2 ^^^ 3988292384 : Nat) : Int) := ixorU32 (st / 2) 3988292384 (by omega) (by omega)
    unfold M_conciergeref02_Of_l0
    rw [if_pos (by simp; omega)]
    simp only [e0, Option.bind_some, e1, e2, e3, e4, e5, e6, e7, e8]
    rw [if_pos (by simp)]
    simp only [Option.bind_some]
    rw [hst']
    by_cases h : (y % 2 ^^^ st % 2) = 1
    · have h' : ((y % 2 ^^^ st % 2 : Nat) : Int) = 1 := by rw [h]; rfl
      rw [if_pos (decide_eq_true h'), if_pos h, Option.bind_some]
      simp only [e5, e6, e8, next_nat k (by omega)]
    · have h' : ¬ (((y % 2 ^^^ st % 2 : Nat) : Int) = 1) := fun q => h (by omega)
      rw [if_neg (fun q => h' (of_decide_eq_true q)), if_neg h, Option.bind_some]
      simp only [e5, e6, next_nat k (by omega)]
theorem rof_loop (s : List UInt8) (hs : s.length ≤ 1000000000) : ∀ (m k st : Nat), k + m = s.length → st < 4294967296 → TendsL M_conciergeref02_Of_l1 (s, (st : Int), (k : Int), ()) (((crcS st (s.drop k) : Nat) : Int), ())
  | 0, k, st, hk, hx => by
    refine TendsL.fin (.of fun F => ?_)
    unfold M_conciergeref02_Of_l1
    rw [if_neg (by simp; omega), List.drop_of_length_le (by omega)]
    rfl
  | m + 1, k, st, hk, hx => by
    have hlt : k < s.length := by omega
    have hd : s.drop k = s[k] :: s.drop (k + 1) := List.drop_eq_getElem_cons hlt
    have hr := (r2_loop s k hlt 8 0 st rfl hx).run
    rw [show s[k].toNat / 2 ^ 0 = s[k].toNat by simp] at hr
    rw [hd]
    refine TendsL.step ?_ (rof_loop s hs m (k + 1) (bm st s[k]) (by omega) (bm_lt _ hx))
    unfold M_conciergeref02_Of_l1
    refine Tends.pos (by simp; omega) (Tends.bind hr (.of fun F => ?_))
    simp only [next_nat k (by omega)]
    rfl
theorem rof_tends (s : List UInt8) (hs : s.length ≤ 1000000000) : Tends (fun F => M_conciergeref02_Of F s) (crcN s : Nat) := by
  have hl := crcS_lt s (st := 4294967295) (by omega)
  unfold M_conciergeref02_Of
  have := rof_loop s hs s.length 0 4294967295 (by omega) (by omega)
  rw [List.drop_zero] at this
  refine Tends.bind this.run (.of fun F => ?_)
  refine congrArg some ?_
  show IntKind.u32.wrap (4294967295 - ((crcS 4294967295 s : Nat) : Int)) = ((crcN s : Nat) : Int)
  rw [wrapU32 _ (by omega) (by omega)]
  unfold crcN
  omega
end Go.Vm
