/- A sign written by strings.Builder, plainly. No condition but on lengths. -/
import Derived.Test.YtgejjocbhonkjaaDoorFbld
import Derived.Test.YtgejjocbhonkjaaDoorPu1
namespace Go.Vm
open Go.Lib (decodeL decodeN decodeL_N decode_N decodeN_shape decodeL_le)
set_option linter.unusedVariables false
set_option linter.unusedSimpArgs false

set_option maxHeartbeats 1000000 in
theorem append_eq (F c : Nat) (h : okR c) (l : List UInt8) (hl : l.length ≤ 1000000000000) : M_unicode_utf8_AppendRune F (l, (c : Int)) = some (l ++ enc8 (c : Int)) := by
  rw [enc8_val c h]
  obtain ⟨h1, h2⟩ := h
  have u : IntKind.u32.wrap (c : Int) = (c : Int) := wrapU32 _ (by omega) (by omega)
  have s6 : shr .i32 (c : Int) 6 = ((c / 64 : Nat) : Int) := shr_nat c 6 (by omega)
  have s12 : shr .i32 (c : Int) 12 = ((c / 4096 : Nat) : Int) := shr_nat c 12 (by omega)
  have s18 : shr .i32 (c : Int) 18 = ((c / 262144 : Nat) : Int) := shr_nat c 18 (by omega)
  have L1 : (l.length + 1) * 1 ≤ 140737488355328 := by omega
  have L2 : (l.length + 2) * 1 ≤ 140737488355328 := by omega
  have L3 : (l.length + 3) * 1 ≤ 140737488355328 := by omega
  have L4 : (l.length + 4) * 1 ≤ 140737488355328 := by omega
  unfold M_unicode_utf8_AppendRune M_unicode_utf8_appendRuneNonASCII encN
  simp only [u, s6, s12, s18, low6, List.length_cons, List.length_nil, Nat.zero_add, Nat.reduceAdd, L1, L2, L3, L4, decide_true, if_true, Option.bind_some]
  by_cases c1 : c < 128
  · have : (c : Int) ≤ 127 := by omega
    simp only [c1, this, if_true, decide_true]
    rw [wrapU8 _ (by omega) (by omega)]
    simp
  have n1 : ¬ (c : Int) ≤ 127 := by omega
  by_cases c2 : c < 2048
  · have : (c : Int) ≤ 2047 := by omega
    simp only [c1, n1, c2, this, if_true, if_false, decide_true, decide_false, Bool.false_eq_true, Option.bind_some]
    rw [wrapU8 _ (by omega) (by omega), io192 _ (by omega)]
    simp only [Int.toNat_natCast]
  have n2 : ¬ (c : Int) ≤ 2047 := by omega
  by_cases c3 : c < 65536
  · have w : (c : Int) ≤ 65535 := by omega
    have : (c : Int) < 55296 ∨ (57343 : Int) < c := by omega
    have hx : ior .u8 224 (IntKind.u8.wrap ((c / 4096 : Nat) : Int)) = ((224 + c / 4096 : Nat) : Int) := by rw [wrapU8 _ (by omega) (by omega), io224 _ (by omega)]
    by_cases c4 : (c : Int) < 55296
    · simp only [c1, n1, c2, n2, c3, c4, if_true, if_false, decide_true, decide_false, Bool.false_eq_true, Option.bind_some, Int.toNat_natCast, L3, hx, low6, s6, s12, s18]
    · have c5 : (57343 : Int) < c := by omega
      simp only [c1, n1, c2, n2, c3, c4, c5, w, if_true, if_false, decide_true, decide_false, Bool.false_eq_true, Option.bind_some, Int.toNat_natCast, L3, hx, low6, s6, s12, s18]
  have n3 : ¬ (c : Int) ≤ 65535 := by omega
  have c4 : ¬ (c : Int) < 55296 := by omega
  have c5 : (57343 : Int) < c := by omega
  have c6 : (65535 : Int) < c := by omega
  have c7 : (c : Int) ≤ 1114111 := by omega
  have hx : ior .u8 240 (IntKind.u8.wrap ((c / 262144 : Nat) : Int)) = ((240 + c / 262144 : Nat) : Int) := by rw [wrapU8 _ (by omega) (by omega), io240 _ (by omega)]
  simp only [c1, n1, c2, n2, c3, n3, c4, c5, c6, c7, if_true, if_false, decide_true, decide_false, Bool.false_eq_true, Option.bind_some, Int.toNat_natCast, L4, hx, low6, s6, s12, s18]

theorem write_eq (F c : Nat) (h : okR c) (l : List UInt8) (hl : l.length ≤ 1000000000000) : ∃ n, M_strings_Builder_WriteRune F (((), l, ()), (c : Int)) = some ((n, ()), (), l ++ enc8 (c : Int), ()) := by
  unfold M_strings_Builder_WriteRune M_strings_Builder_copyCheck
  simp only [Option.bind_some, append_eq F c h l hl]
  exact ⟨_, rfl⟩


end Go.Vm
