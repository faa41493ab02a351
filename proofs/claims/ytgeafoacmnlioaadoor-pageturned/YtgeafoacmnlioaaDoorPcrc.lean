/- Check sums, plainly; the program's. No condition. -/
import Derived.Test.YtgeafoacmnlioaaDoorFcrc
import Derived.Test.YtgeafoacmnlioaaDoorPbase
namespace Go.Vm
set_option linter.unusedVariables false
set_option linter.unusedSimpArgs false
open Go
/-! ### words of 32 bits -/
theorem wrapU32 (n : Int) (h : 0 ≤ n) (h' : n ≤ 4294967295) : IntKind.u32.wrap n = n := by
  simp only [IntKind.wrap, IntKind.signed, IntKind.bits]
  simp
  omega
theorem shrU32 (n : Nat) (k m : Nat) (j : Int) (hm : j = (k : Int)) (hk : k ≤ 32) (h2 : 2 ^ k = m) : shr .u32 (n : Int) j = ((n / m : Nat) : Int) := by
  subst hm
  subst h2
  unfold shr
  have e : min (k : Int).toNat IntKind.u32.bits = k := by
    show min (k : Int).toNat 32 = k
    omega
  rw [e, Int.fdiv_eq_ediv_of_nonneg _ (Int.le_of_lt (Int.pow_pos (by decide)))]
  have : ((2 : Int) ^ k) = ((2 ^ k : Nat) : Int) := by push_cast; rfl
  rw [this]
  exact (Int.natCast_ediv n (2 ^ k)).symm
theorem ixorU32 (a b : Nat) (ha : a < 4294967296) (hb : b < 4294967296) : ixor .u32 (a : Int) (b : Int) = ((a ^^^ b : Nat) : Int) := by
  have h : a ^^^ b < 4294967296 := Nat.xor_lt_two_pow (n := 32) ha hb
  unfold ixor
  rw [BitVec.ofInt_natCast, BitVec.ofInt_natCast, BitVec.toNat_xor, BitVec.toNat_ofNat, BitVec.toNat_ofNat]
  rw [show IntKind.u32.bits = 32 from rfl, Nat.mod_eq_of_lt (by omega), Nat.mod_eq_of_lt (by omega), wrapU32 _ (by omega) (by omega)]
theorem iand1U32 (a : Nat) (ha : a < 4294967296) : iand .u32 (a : Int) 1 = ((a % 2 : Nat) : Int) := by
  unfold iand
  rw [BitVec.ofInt_natCast, show (1 : Int) = ((1 : Nat) : Int) from rfl, BitVec.ofInt_natCast, BitVec.toNat_and, BitVec.toNat_ofNat, BitVec.toNat_ofNat]
  rw [show IntKind.u32.bits = 32 from rfl, Nat.mod_eq_of_lt (by omega), Nat.mod_eq_of_lt (by omega), Nat.and_one_is_mod, wrapU32 _ (by omega) (by omega)]
theorem inotU32 (a : Nat) (ha : a < 4294967296) : inot .u32 (a : Int) = ((4294967295 - a : Nat) : Int) := by
  have h : inot .u32 (a : Int) = IntKind.u32.wrap ((BitVec.allOnes 32 ^^^ BitVec.ofInt 32 (a : Int)).toNat : Int) := rfl
  rw [h, BitVec.ofInt_natCast, BitVec.allOnes_xor, BitVec.toNat_not, BitVec.toNat_ofNat, Nat.mod_eq_of_lt (by omega), wrapU32 _ (by omega) (by omega)]
/-! ### the sum -/
def rnd (x : Nat) : Nat := if x % 2 = 1 then x / 2 ^^^ 3988292384 else x / 2
def rndN : Nat → Nat → Nat
  | 0, x => x
  | k + 1, x => rndN k (rnd x)
def bm (st : Nat) (b : UInt8) : Nat := rndN 8 (st ^^^ b.toNat)
def crcS (st : Nat) (s : List UInt8) : Nat := s.foldl bm st
def crcN (s : List UInt8) : Nat := 4294967295 - crcS 4294967295 s
def sum4 (n : Nat) : List UInt8 := [UInt8.ofNat (n / 16777216), UInt8.ofNat (n / 65536), UInt8.ofNat (n / 256), UInt8.ofNat n]
def fourL (s : List UInt8) : List UInt8 := sum4 (crcN s)
def sealL (s : List UInt8) : List UInt8 := s ++ fourL s
theorem rnd_lt {x : Nat} (h : x < 4294967296) : rnd x < 4294967296 := by
  unfold rnd
  split
  · exact Nat.xor_lt_two_pow (n := 32) (by omega) (by omega)
  · omega
theorem rndN_lt : ∀ (k : Nat) {x : Nat}, x < 4294967296 → rndN k x < 4294967296
  | 0, _, h => h
  | k + 1, _, h => rndN_lt k (rnd_lt h)
theorem byte_lt (b : UInt8) : b.toNat < 4294967296 := by have := b.toNat_lt; omega
theorem bm_lt {st : Nat} (b : UInt8) (h : st < 4294967296) : bm st b < 4294967296 := rndN_lt 8 (Nat.xor_lt_two_pow (n := 32) h (byte_lt b))
theorem crcS_lt : ∀ (s : List UInt8) {st : Nat}, st < 4294967296 → crcS st s < 4294967296
  | [], _, h => h
  | b :: s, _, h => crcS_lt s (bm_lt b h)
theorem crcN_lt (s : List UInt8) : crcN s < 4294967296 := by unfold crcN; omega
theorem sealL_len (s : List UInt8) : (sealL s).length = s.length + 4 := by simp [sealL, fourL, sum4]
theorem more_loop : ∀ (m k x : Nat), k + m = 8 → x < 4294967296 → TendsL M_crc_byteMore_l0 ((x : Int), (k : Int), ()) (((rndN m x : Nat) : Int), ())
  | 0, k, x, hk, hx => by
    refine TendsL.fin (.of fun F => ?_)
    unfold M_crc_byteMore_l0
    rw [if_neg (by simp; omega)]
    rfl
  | m + 1, k, x, hk, hx => by
    refine TendsL.step (.of fun F => ?_) (more_loop m (k + 1) (rnd x) (by omega) (rnd_lt hx))
    unfold M_crc_byteMore_l0
    have e1 := iand1U32 x hx
    have e2 := shrU32 x 1 2 1 rfl (by omega) (by decide)
    have e3 := ixorU32 (x / 2) 3988292384 (by omega) (by omega)
    have e3' : ixor .u32 ((x / 2 : Nat) : Int) 3988292384 = ((x / 2 ^^^ 3988292384 : Nat) : Int) := e3
    simp only [e1, e2, e3']
    rw [if_pos (by simp; omega)]
    unfold rnd
    by_cases h : x % 2 = 1
    · have h' : ((x % 2 : Nat) : Int) = 1 := by omega
      rw [if_pos (decide_eq_true h'), if_pos h, Option.bind_some, next_nat k (by omega)]
    · have h' : ¬ (((x % 2 : Nat) : Int) = 1) := by omega
      rw [if_neg (fun q => h' (of_decide_eq_true q)), if_neg h, Option.bind_some, next_nat k (by omega)]
theorem more_tends (st : Nat) (b : UInt8) (h : st < 4294967296) : Tends (fun F => M_crc_byteMore F ((st : Int), (b.toNat : Int))) (bm st b : Nat) := by
  unfold M_crc_byteMore
  have e : ixor .u32 (st : Int) (IntKind.u32.wrap (b.toNat : Int)) = ((st ^^^ b.toNat : Nat) : Int) := by
    rw [wrapU32 _ (by omega) (by have := b.toNat_lt; omega), ixorU32 st b.toNat h (byte_lt b)]
  refine Tends.bind (r := (((bm st b : Nat) : Int), ())) ?_ (.ret _)
  simp only [e]
  exact (more_loop 8 0 (st ^^^ b.toNat) rfl (Nat.xor_lt_two_pow (n := 32) h (byte_lt b))).run
theorem next_loop (s : List UInt8) (hs : s.length ≤ 1000000000) : ∀ (m k st : Nat), k + m = s.length → st < 4294967296 → TendsL M_crc_Next_l0 (s, (st : Int), (s.length : Int), (k : Int), ()) (((crcS st (s.drop k) : Nat) : Int), ())
  | 0, k, st, hk, hx => by
    refine TendsL.fin (.of fun F => ?_)
    unfold M_crc_Next_l0
    rw [if_neg (by simp; omega), List.drop_of_length_le (by omega)]
    rfl
  | m + 1, k, st, hk, hx => by
    have hlt : k < s.length := by omega
    have hd : s.drop k = s[k] :: s.drop (k + 1) := List.drop_eq_getElem_cons hlt
    have hi : idx s (k : Int) = some s[k] := idxN s k _ rfl hlt
    rw [hd]
    refine TendsL.step ?_ (next_loop s hs m (k + 1) (bm st s[k]) (by omega) (bm_lt _ hx))
    unfold M_crc_Next_l0
    refine Tends.pos (by simp; omega) (Tends.bind (.const hi) (Tends.bind (more_tends st s[k] hx) (.of fun F => ?_)))
    simp only [next_nat k (by omega)]
theorem of_tends (s : List UInt8) (hs : s.length ≤ 1000000000) : Tends (fun F => M_crc_Of F s) (crcN s : Nat) := by
  unfold M_crc_Of
  refine Tends.bind (r := ((crcN s : Nat) : Int)) ?_ (.ret _)
  unfold M_crc_Next
  have e0 : inot .u32 0 = ((4294967295 : Nat) : Int) := inotU32 0 (by omega)
  have hl := crcS_lt s (st := 4294967295) (by omega)
  refine Tends.bind (r := (((crcS 4294967295 s : Nat) : Int), ())) ?_ (.of fun F => ?_)
  · simp only [e0]
    have := next_loop s hs s.length 0 4294967295 (by omega) (by omega)
    rw [List.drop_zero] at this
    exact this.run
  · rw [inotU32 _ hl]
    rfl
theorem byteU (n : Nat) (x : Int) (h : x = (n : Int)) : UInt8.ofNat (IntKind.u8.wrap x).toNat = UInt8.ofNat n := by
  subst h
  have : IntKind.u8.wrap (n : Int) = (n : Int) % 256 := by
    simp only [IntKind.wrap, IntKind.signed, IntKind.bits]
    simp
  rw [this, show ((n : Int) % 256).toNat = n % 256 by omega]
  apply UInt8.toNat_inj.1
  simp
theorem sum4_bytes (n : Nat) : [UInt8.ofNat (IntKind.u8.wrap (shr .u32 (n : Int) 24)).toNat, UInt8.ofNat (IntKind.u8.wrap (shr .u32 (n : Int) 16)).toNat, UInt8.ofNat (IntKind.u8.wrap (shr .u32 (n : Int) 8)).toNat, UInt8.ofNat (IntKind.u8.wrap (n : Int)).toNat] = sum4 n := by
  unfold sum4
  rw [byteU _ _ (shrU32 n 24 16777216 24 rfl (by omega) (by decide)), byteU _ _ (shrU32 n 16 65536 16 rfl (by omega) (by decide)), byteU _ _ (shrU32 n 8 256 8 rfl (by omega) (by decide)), byteU n _ rfl]
theorem seal_tends (s : List UInt8) (hs : s.length ≤ 1000000000) : Tends (fun F => M_crc_Seal F s) (sealL s) := by
  unfold M_crc_Seal
  refine Tends.bind (of_tends s hs) (Tends.bind (r := (sealL s, ())) (.of fun F => ?_) (.ret _))
  rw [sum4_bytes, if_pos (by simp [sum4]; omega)]
  rfl
def opnL (s : List UInt8) : List UInt8 × Bool := if s.length < 4 ∨ sealL (s.take (s.length - 4)) ≠ s then ([], false) else (s.take (s.length - 4), true)
theorem copen_tends (s : List UInt8) (hs : s.length ≤ 1000000000) : Tends (fun F => M_crc_Open F s) (opnL s) := by
  unfold M_crc_Open opnL
  by_cases h : s.length < 4
  · have e : IntKind.i64.wrap ((s.length : Int) - 4) = (s.length : Int) - 4 := by rw [wrap64] <;> omega
    simp only [e]
    have hn : s.length < 4 ∨ sealL (s.take (s.length - 4)) ≠ s := .inl h
    rw [if_pos hn]
    refine Tends.bind (r := (s, (s.length : Int) - 4, true, ())) (Tends.neg (by simp; omega) (.ret _)) (Tends.pos rfl (.ret _))
  · have e : IntKind.i64.wrap ((s.length : Int) - 4) = ((s.length - 4 : Nat) : Int) := by rw [wrap64] <;> omega
    simp only [e]
    have s1 : sub s 0 ((s.length - 4 : Nat) : Int) = some (s.take (s.length - 4)) := by simpa using subN s 0 (s.length - 4) (by omega) (by omega)
    refine Tends.bind (r := (s, ((s.length - 4 : Nat) : Int), !decide (sealL (s.take (s.length - 4)) = s), ())) (Tends.pos (by simp) (Tends.bind (.const s1) (Tends.bind (seal_tends _ (by simp; omega)) (.ret _)))) ?_
    by_cases hq : sealL (s.take (s.length - 4)) = s
    · have hn : ¬ (s.length < 4 ∨ sealL (s.take (s.length - 4)) ≠ s) := fun x => x.elim h (fun y => y hq)
      rw [if_neg hn, decide_eq_true hq]
      exact Tends.neg (by simp) (Tends.bind (.const s1) (.ret _))
    · have hn : s.length < 4 ∨ sealL (s.take (s.length - 4)) ≠ s := .inr hq
      rw [if_pos hn, decide_eq_false hq]
      exact Tends.pos rfl (.ret _)
theorem opnL_seal (s : List UInt8) : opnL (sealL s) = (s, true) := by
  have hl := sealL_len s
  have ht : (sealL s).take ((sealL s).length - 4) = s := by rw [hl, Nat.add_sub_cancel]; unfold sealL; simp
  unfold opnL
  rw [ht, if_neg (fun h => h.elim (by omega) (fun y => y rfl))]
/-! ### one byte changed is told -/
theorem rnd_bit {x : Nat} (h : x < 4294967296) : (rnd x).testBit 31 = decide (x % 2 = 1) := by
  have h2 : (x / 2).testBit 31 = false := Nat.testBit_lt_two_pow (by omega)
  unfold rnd
  split
  · rename_i h1
    rw [Nat.testBit_xor, h2]
    simp [h1]
    decide
  · rename_i h1
    rw [h2]
    simp [h1]
theorem xorR {a b c : Nat} (h : a ^^^ c = b ^^^ c) : a = b := by
  have := congrArg (fun z => z ^^^ c) h
  simpa [Nat.xor_assoc] using this
theorem xorL {a b c : Nat} (h : a ^^^ b = a ^^^ c) : b = c := xorR (c := a) (by rw [Nat.xor_comm b a, Nat.xor_comm c a]; exact h)
theorem rnd_inj {x y : Nat} (hx : x < 4294967296) (hy : y < 4294967296) (h : rnd x = rnd y) : x = y := by
  have hb : decide (x % 2 = 1) = decide (y % 2 = 1) := by rw [← rnd_bit hx, ← rnd_bit hy, h]
  have hm : x % 2 = y % 2 := by
    by_cases h1 : x % 2 = 1
    · have : y % 2 = 1 := by rw [decide_eq_true h1] at hb; exact of_decide_eq_true hb.symm
      omega
    · have : ¬ (y % 2 = 1) := by rw [decide_eq_false h1] at hb; exact of_decide_eq_false hb.symm
      omega
  have hd : x / 2 = y / 2 := by
    unfold rnd at h
    by_cases h1 : x % 2 = 1
    · rw [if_pos h1, if_pos (by omega)] at h
      exact xorR h
    · rw [if_neg h1, if_neg (by omega)] at h
      exact h
  omega
theorem rndN_inj : ∀ (k : Nat) {x y : Nat}, x < 4294967296 → y < 4294967296 → rndN k x = rndN k y → x = y
  | 0, _, _, _, _, h => h
  | k + 1, _, _, hx, hy, h => rnd_inj hx hy (rndN_inj k (rnd_lt hx) (rnd_lt hy) h)
theorem bm_inj {x y : Nat} {b : UInt8} (hx : x < 4294967296) (hy : y < 4294967296) (h : bm x b = bm y b) : x = y :=
  xorR (rndN_inj 8 (Nat.xor_lt_two_pow (n := 32) hx (byte_lt b)) (Nat.xor_lt_two_pow (n := 32) hy (byte_lt b)) h)
theorem bm_inj2 {x : Nat} {b c : UInt8} (hx : x < 4294967296) (h : bm x b = bm x c) : b = c :=
  UInt8.toNat_inj.1 (xorL (rndN_inj 8 (Nat.xor_lt_two_pow (n := 32) hx (byte_lt b)) (Nat.xor_lt_two_pow (n := 32) hx (byte_lt c)) h))
theorem crcS_inj : ∀ (s : List UInt8) {x y : Nat}, x < 4294967296 → y < 4294967296 → crcS x s = crcS y s → x = y
  | [], _, _, _, _, h => h
  | b :: s, _, _, hx, hy, h => bm_inj hx hy (crcS_inj s (bm_lt b hx) (bm_lt b hy) h)
theorem crcN_change (p t : List UInt8) {b c : UInt8} (h : crcN (p ++ b :: t) = crcN (p ++ c :: t)) : b = c := by
  have l1 := crcS_lt (p ++ b :: t) (st := 4294967295) (by omega)
  have l2 := crcS_lt (p ++ c :: t) (st := 4294967295) (by omega)
  have h1 : crcS 4294967295 (p ++ b :: t) = crcS 4294967295 (p ++ c :: t) := by unfold crcN at h; omega
  unfold crcS at h1
  rw [List.foldl_append, List.foldl_append, List.foldl_cons, List.foldl_cons] at h1
  have lp : p.foldl bm 4294967295 < 4294967296 := crcS_lt p (by omega)
  exact bm_inj2 lp (crcS_inj t (bm_lt b lp) (bm_lt c lp) h1)
theorem sum4_inj {n m : Nat} (hn : n < 4294967296) (hm : m < 4294967296) (h : sum4 n = sum4 m) : n = m := by
  unfold sum4 at h
  simp only [List.cons.injEq, and_true] at h
  obtain ⟨h1, h2, h3, h4⟩ := h
  have g1 := congrArg UInt8.toNat h1
  have g2 := congrArg UInt8.toNat h2
  have g3 := congrArg UInt8.toNat h3
  have g4 := congrArg UInt8.toNat h4
  simp only [UInt8.toNat_ofNat'] at g1 g2 g3 g4
  omega
end Go.Vm
