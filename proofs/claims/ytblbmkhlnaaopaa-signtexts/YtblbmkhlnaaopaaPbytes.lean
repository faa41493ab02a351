/- The plain law of a sign's bytes: as strings.Builder writes it and as the document's reference does. No condition but that it is a sign, and on lengths. -/
import Derived.Test.YtblbmkhlnaaopaaPruns
namespace Go.Vm
open Go.Lib (decodeL decodeN decodeL_N decode_N decodeN_shape decodeL_le)
set_option linter.unusedVariables false
set_option linter.unusedSimpArgs false

def okR (c : Nat) : Prop := c ≤ 1114111 ∧ (c < 55296 ∨ 57343 < c)

def encN (c : Nat) : List UInt8 := if c < 128 then [UInt8.ofNat c] else if c < 2048 then [UInt8.ofNat (192 + c / 64), UInt8.ofNat (128 + c % 64)] else if c < 65536 then [UInt8.ofNat (224 + c / 4096), UInt8.ofNat (128 + c / 64 % 64), UInt8.ofNat (128 + c % 64)] else [UInt8.ofNat (240 + c / 262144), UInt8.ofNat (128 + c / 4096 % 64), UInt8.ofNat (128 + c / 64 % 64), UInt8.ofNat (128 + c % 64)]
def encB (c : Nat) : ByteArray := if c < 0x80 then ⟨#[UInt8.ofNat c]⟩
  else if c < 0x800 then ⟨#[UInt8.ofNat (0xC0 + c / 64), UInt8.ofNat (0x80 + c % 64)]⟩
  else if c < 0x10000 then ⟨#[UInt8.ofNat (0xE0 + c / 4096), UInt8.ofNat (0x80 + c / 64 % 64), UInt8.ofNat (0x80 + c % 64)]⟩
  else ⟨#[UInt8.ofNat (0xF0 + c / 262144), UInt8.ofNat (0x80 + c / 4096 % 64), UInt8.ofNat (0x80 + c / 64 % 64), UInt8.ofNat (0x80 + c % 64)]⟩
theorem enc_B (r : Int) : Utf8.encode r = encB (if Utf8.valid r = true then r.toNat else Utf8.runeError) := rfl
theorem B_N (c : Nat) : (encB c).data.toList = encN c := by
  unfold encB encN
  split
  · rfl
  split
  · rfl
  split
  · rfl
  · rfl
theorem e1 (n : Int) : enc8 n = (Utf8.encode n).data.toList := by unfold enc8; rfl
theorem e3 (n : Int) : enc8 n = encN (if Utf8.valid n = true then n.toNat else Utf8.runeError) := (e1 n).trans ((congrArg (fun b : ByteArray => b.data.toList) (enc_B n)).trans (B_N _))
theorem e2 (n : Int) (c : Nat) (hn : n = (c : Int)) (hv : Utf8.valid n = true) : (if Utf8.valid n = true then n.toNat else Utf8.runeError) = c := by rw [if_pos hv]; omega
theorem enc8_N (n : Int) (c : Nat) (hn : n = (c : Int)) (hv : Utf8.valid n = true) : enc8 n = encN c := by rw [e3, e2 n c hn hv]
theorem valid_ok (n : Int) (c : Nat) (hn : n = (c : Int)) (h : okR c) : Utf8.valid n = true := by
  obtain ⟨h1, h2⟩ := h
  unfold Utf8.valid
  rcases h2 with h2 | h2
  · have a : (0 : Int) ≤ n := by omega
    have b : n < 0xD800 := by omega
    simp only [a, b, decide_true, Bool.and_true, Bool.true_or]
  · have a : (0xE000 : Int) ≤ n := by omega
    have b : n ≤ 0x10FFFF := by omega
    simp only [a, b, decide_true, Bool.and_true, Bool.or_true]
theorem enc8_val (c : Nat) (h : okR c) : enc8 (c : Int) = encN c := enc8_N _ c rfl (valid_ok _ c rfl h)

theorem wrapU8 (n : Int) (h : 0 ≤ n) (h' : n ≤ 255) : IntKind.u8.wrap n = n := by
  have hb : IntKind.u8.bits = 8 := rfl
  have hs : IntKind.u8.signed = false := rfl
  unfold IntKind.wrap
  simp only [hb, hs]
  simp
  omega
theorem wrapU8_mod (n : Int) (h : 0 ≤ n) : IntKind.u8.wrap n = n % 256 := by
  have hb : IntKind.u8.bits = 8 := rfl
  have hs : IntKind.u8.signed = false := rfl
  unfold IntKind.wrap
  simp only [hb, hs]
  simp
theorem wrapU32 (n : Int) (h : 0 ≤ n) (h' : n ≤ 4294967295) : IntKind.u32.wrap n = n := by
  have hb : IntKind.u32.bits = 32 := rfl
  have hs : IntKind.u32.signed = false := rfl
  unfold IntKind.wrap
  simp only [hb, hs]
  simp
  omega

theorem refBytes_eq (F c : Nat) (h : okR c) : M_conciergeref04_Bytes F (c : Int) = some (enc8 (c : Int)) := by
  obtain ⟨h1, h2⟩ := h
  rw [enc8_val c ⟨h1, h2⟩]
  unfold M_conciergeref04_Bytes encN
  have d1 : (c : Int).tdiv 64 = ((c / 64 : Nat) : Int) := by rw [Int.tdiv_eq_ediv_of_nonneg (by omega)]; omega
  have d2 : (c : Int).tdiv 4096 = ((c / 4096 : Nat) : Int) := by rw [Int.tdiv_eq_ediv_of_nonneg (by omega)]; omega
  have d3 : (c : Int).tdiv 262144 = ((c / 262144 : Nat) : Int) := by rw [Int.tdiv_eq_ediv_of_nonneg (by omega)]; omega
  have m1 : ∀ d : Nat, (d : Int).tmod 64 = ((d % 64 : Nat) : Int) := fun d => by rw [Int.tmod_eq_emod_of_nonneg (by omega)]; omega
  simp only [d1, d2, d3]
  simp (disch := omega) only [wrap64]
  simp only [m1]
  simp (disch := omega) only [wrap64]
  by_cases c1 : c < 128
  · have : (c : Int) < 128 := by omega
    simp only [c1, this, if_true, decide_true]
    rw [wrapU8 _ (by omega) (by omega)]
    simp
  have n1 : ¬ (c : Int) < 128 := by omega
  by_cases c2 : c < 2048
  · have : (c : Int) < 2048 := by omega
    simp only [c1, n1, c2, this, if_true, if_false, decide_true, decide_false, Bool.false_eq_true]
    rw [wrapU8 _ (by omega) (by omega), wrapU8 _ (by omega) (by omega)]
    congr 3 <;> omega
  have n2 : ¬ (c : Int) < 2048 := by omega
  by_cases c3 : c < 65536
  · have : (c : Int) < 65536 := by omega
    simp only [c1, n1, c2, n2, c3, this, if_true, if_false, decide_true, decide_false, Bool.false_eq_true]
    rw [wrapU8 _ (by omega) (by omega), wrapU8 _ (by omega) (by omega), wrapU8 _ (by omega) (by omega)]
    congr 3
    all_goals first | omega | (congr 2 <;> omega)
  have n3 : ¬ (c : Int) < 65536 := by omega
  simp only [c1, n1, c2, n2, c3, n3, if_true, if_false, decide_true, decide_false, Bool.false_eq_true]
  rw [wrapU8 _ (by omega) (by omega), wrapU8 _ (by omega) (by omega), wrapU8 _ (by omega) (by omega), wrapU8 _ (by omega) (by omega)]
  congr 3
  all_goals first | omega | (congr 2 <;> omega)

theorem rune_ok (l : List UInt8) : okR (decodeL l).1 := by
  unfold okR
  rw [decodeL_N]
  rcases decodeN_shape l.length (l.getD 0 0).toNat (l.getD 1 0).toNat (l.getD 2 0).toNat (l.getD 3 0).toNat with ⟨p, e⟩ | ⟨_, _, _, _, e⟩ | ⟨_, _, _, _, _, _, e⟩ | ⟨_, _, _, _, _, _, _, e⟩ | e <;> rw [e] <;> simp only <;> omega

theorem ior192 : ∀ k : Fin 32, ior .u8 192 ((k.val : Nat) : Int) = ((192 + k.val : Nat) : Int) := by decide
theorem ior224 : ∀ k : Fin 16, ior .u8 224 ((k.val : Nat) : Int) = ((224 + k.val : Nat) : Int) := by decide
theorem ior240 : ∀ k : Fin 8, ior .u8 240 ((k.val : Nat) : Int) = ((240 + k.val : Nat) : Int) := by decide
theorem ior128 : ∀ k : Fin 64, ior .u8 128 ((k.val : Nat) : Int) = ((128 + k.val : Nat) : Int) := by decide
theorem iand63 : ∀ k : Fin 256, iand .u8 ((k.val : Nat) : Int) 63 = ((k.val % 64 : Nat) : Int) := by decide +kernel

theorem io192 (k : Nat) (h : k < 32) : ior .u8 192 (k : Int) = ((192 + k : Nat) : Int) := ior192 ⟨k, h⟩
theorem io224 (k : Nat) (h : k < 16) : ior .u8 224 (k : Int) = ((224 + k : Nat) : Int) := ior224 ⟨k, h⟩
theorem io240 (k : Nat) (h : k < 8) : ior .u8 240 (k : Int) = ((240 + k : Nat) : Int) := ior240 ⟨k, h⟩
theorem io128 (k : Nat) (h : k < 64) : ior .u8 128 (k : Int) = ((128 + k : Nat) : Int) := ior128 ⟨k, h⟩
theorem low6 (d : Nat) : ior .u8 128 (iand .u8 (IntKind.u8.wrap (d : Int)) 63) = ((128 + d % 64 : Nat) : Int) := by
  rw [wrapU8_mod _ (by omega), show (d : Int) % 256 = ((d % 256 : Nat) : Int) by omega, show iand .u8 ((d % 256 : Nat) : Int) 63 = ((d % 256 % 64 : Nat) : Int) from iand63 ⟨d % 256, by omega⟩, io128 _ (by omega)]
  congr 2
  omega

theorem shr_nat (c : Nat) (j : Nat) (hj : j ≤ 32) : shr .i32 (c : Int) (j : Int) = ((c / 2 ^ j : Nat) : Int) := by
  have hb : IntKind.i32.bits = 32 := rfl
  unfold shr
  rw [hb, Int.toNat_natCast, Nat.min_eq_left hj, Int.fdiv_eq_ediv_of_nonneg _ (Int.pow_nonneg (by decide)), Int.natCast_ediv, Int.natCast_pow]
  rfl

set_option maxHeartbeats 1000000 in
theorem append_eq (F c : Nat) (h : okR c) (l : List UInt8) (hl : l.length ≤ 1000000000000) : M_unicode_utf8_AppendRune F (l, (c : Int)) = some (l ++ enc8 (c : Int)) := by
  rw [enc8_val c h]
  obtain ⟨h1, h2⟩ := h
  have u : IntKind.u32.wrap (c : Int) = (c : Int) := wrapU32 _ (by omega) (by omega)
  have s6 : shr .i32 (c : Int) 6 = ((c / 64 : Nat) : Int) := shr_nat c 6 (by omega)
  have s12 : shr .i32 (c : Int) 12 = ((c / 4096 : Nat) : Int) := shr_nat c 12 (by omega)
  have s18 : shr .i32 (c : Int) 18 = ((c / 262144 : Nat) : Int) := shr_nat c 18 (by omega)
  have L1 : (l.length + 1) * 1 ≤ 140737488355328 := by omega
  have L2 : (l.length + 2) * 1 ≤ 140737488355328 := by omega
  have L3 : (l.length + 3) * 1 ≤ 140737488355328 := by omega
  have L4 : (l.length + 4) * 1 ≤ 140737488355328 := by omega
  unfold M_unicode_utf8_AppendRune M_unicode_utf8_appendRuneNonASCII encN
  simp only [u, s6, s12, s18, low6, List.length_cons, List.length_nil, Nat.zero_add, Nat.reduceAdd, L1, L2, L3, L4, decide_true, if_true, Option.bind_some]
  by_cases c1 : c < 128
  · have : (c : Int) ≤ 127 := by omega
    simp only [c1, this, if_true, decide_true]
    rw [wrapU8 _ (by omega) (by omega)]
    simp
  have n1 : ¬ (c : Int) ≤ 127 := by omega
  by_cases c2 : c < 2048
  · have : (c : Int) ≤ 2047 := by omega
    simp only [c1, n1, c2, this, if_true, if_false, decide_true, decide_false, Bool.false_eq_true, Option.bind_some]
    rw [wrapU8 _ (by omega) (by omega), io192 _ (by omega)]
    simp only [Int.toNat_natCast]
  have n2 : ¬ (c : Int) ≤ 2047 := by omega
  by_cases c3 : c < 65536
  · have w : (c : Int) ≤ 65535 := by omega
    have : (c : Int) < 55296 ∨ (57343 : Int) < c := by omega
    have hx : ior .u8 224 (IntKind.u8.wrap ((c / 4096 : Nat) : Int)) = ((224 + c / 4096 : Nat) : Int) := by rw [wrapU8 _ (by omega) (by omega), io224 _ (by omega)]
    by_cases c4 : (c : Int) < 55296
    · simp only [c1, n1, c2, n2, c3, c4, if_true, if_false, decide_true, decide_false, Bool.false_eq_true, Option.bind_some, Int.toNat_natCast, L3, hx, low6, s6, s12, s18]
    · have c5 : (57343 : Int) < c := by omega
      simp only [c1, n1, c2, n2, c3, c4, c5, w, if_true, if_false, decide_true, decide_false, Bool.false_eq_true, Option.bind_some, Int.toNat_natCast, L3, hx, low6, s6, s12, s18]
  have n3 : ¬ (c : Int) ≤ 65535 := by omega
  have c4 : ¬ (c : Int) < 55296 := by omega
  have c5 : (57343 : Int) < c := by omega
  have c6 : (65535 : Int) < c := by omega
  have c7 : (c : Int) ≤ 1114111 := by omega
  have hx : ior .u8 240 (IntKind.u8.wrap ((c / 262144 : Nat) : Int)) = ((240 + c / 262144 : Nat) : Int) := by rw [wrapU8 _ (by omega) (by omega), io240 _ (by omega)]
  simp only [c1, n1, c2, n2, c3, n3, c4, c5, c6, c7, if_true, if_false, decide_true, decide_false, Bool.false_eq_true, Option.bind_some, Int.toNat_natCast, L4, hx, low6, s6, s12, s18]

theorem encN_len (c : Nat) : (encN c).length ≤ 4 := by unfold encN; repeat' split
                                                       all_goals simp

theorem write_eq (F c : Nat) (h : okR c) (l : List UInt8) (hl : l.length ≤ 1000000000000) : ∃ n, M_strings_Builder_WriteRune F (((), l, ()), (c : Int)) = some ((n, ()), (), l ++ enc8 (c : Int), ()) := by
  unfold M_strings_Builder_WriteRune M_strings_Builder_copyCheck
  simp only [Option.bind_some, append_eq F c h l hl]
  exact ⟨_, rfl⟩

theorem great_eq (F : Nat) (r : Int) : M_sign_great F r = some (decide ((65 ≤ r ∧ r ≤ 90) ∨ (192 ≤ r ∧ r ≤ 222 ∧ r ≠ 215) ∨ (913 ≤ r ∧ r ≤ 937 ∧ r ≠ 930))) := by
  unfold M_sign_great
  simp only [among_eq, some_ite, prod_ite, ite_self, Option.bind_some, Bool.if_true_right, Bool.if_true_left, Bool.if_false_left, Bool.if_false_right, Option.some.injEq]
  rw [Bool.eq_iff_iff]
  simp
  omega

theorem wrap32 (n : Int) (h : -2147483648 ≤ n) (h' : n ≤ 2147483647) : IntKind.i32.wrap n = n := by
  have hb : IntKind.i32.bits = 32 := rfl
  have hs : IntKind.i32.signed = true := rfl
  simp only [IntKind.wrap, hb, hs]
  simp
  omega

/-- The small letter of a great one. -/
def foldI (r : Int) : Int := if (65 ≤ r ∧ r ≤ 90) ∨ (192 ≤ r ∧ r ≤ 222 ∧ r ≠ 215) ∨ (913 ≤ r ∧ r ≤ 937 ∧ r ≠ 930) then r + 32 else r
def foldR (c : Nat) : Nat := if (65 ≤ c ∧ c ≤ 90) ∨ (192 ≤ c ∧ c ≤ 222 ∧ c ≠ 215) ∨ (913 ≤ c ∧ c ≤ 937 ∧ c ≠ 930) then c + 32 else c
theorem foldI_nat (c : Nat) : foldI (c : Int) = (foldR c : Int) := by unfold foldI foldR; split <;> split <;> omega
theorem foldR_ok (c : Nat) (h : okR c) : okR (foldR c) := by unfold okR at *; unfold foldR; split <;> omega

theorem enc8_len (n : Int) : (enc8 n).length ≤ 4 := by rw [e3]; exact encN_len _

def foldL (l : List (Int × List UInt8)) : List UInt8 := l.flatMap fun x => enc8 (foldI x.1)

theorem foldLoop (s : List UInt8) (hs : s.length ≤ 100000000000) (p : Nat) (hp : p ≤ s.length) (out : List UInt8) (ho : out.length + 4 * (s.length - p) ≤ 1000000000000) :
    TendsL M_sign_Fold_l0 ((), (), (s, p), ((), (), ()), out, ()) ((), ((), (), ()), out ++ foldL (signs (s.drop p)), ()) := by
  have main : ∀ n p out, s.length - p ≤ n → p ≤ s.length → out.length + 4 * (s.length - p) ≤ 1000000000000 →
      TendsL M_sign_Fold_l0 ((), (), (s, p), ((), (), ()), out, ()) ((), ((), (), ()), out ++ foldL (signs (s.drop p)), ()) := by
    intro n
    induction n with
    | zero =>
      intro p out hn hp ho
      have : p = s.length := by omega
      subst this
      refine TendsL.fin (Tends.of fun F => ?_)
      unfold M_sign_Fold_l0
      simp [signs_nil, foldL]
    | succ n ih =>
      intro p out hn hp ho
      by_cases hlt : p < s.length
      · have hpos := decodeL_pos (s.drop p)
        have hnx := next_le hlt
        rw [signs_cons (drop_ne hlt), drop_next]
        have hok := rune_ok (s.drop p)
        generalize hc : (decodeL (s.drop p)).1 = c at hok
        generalize hd : (decodeL (s.drop p)).2 = d at hpos hnx
        refine TendsL.step (x' := ((), (), (s, p + d), ((), (), ()), out ++ enc8 (foldI (c : Int)), ())) (Tends.of fun F => ?_) ?_
        · unfold M_sign_Fold_l0
          obtain ⟨m, hw⟩ := write_eq F (foldR c) (foldR_ok c hok) out (by omega)
          rw [← foldI_nat] at hw
          simp only [hlt, decide_true, if_true, runeAt_eq, runeLen_eq, hc, hd, great_eq, Option.bind_some]
          unfold foldI at hw ⊢
          by_cases hg : (65 ≤ (c : Int) ∧ (c : Int) ≤ 90) ∨ (192 ≤ (c : Int) ∧ (c : Int) ≤ 222 ∧ (c : Int) ≠ 215) ∨ (913 ≤ (c : Int) ∧ (c : Int) ≤ 937 ∧ (c : Int) ≠ 930)
          · rw [if_pos hg] at hw ⊢
            rw [if_pos (by simpa using hg), Option.bind_some]
            simp only
            rw [wrap32 _ (by omega) (by omega), hw]
            rfl
          · rw [if_neg hg] at hw ⊢
            rw [if_neg (by simpa using hg), Option.bind_some]
            simp only
            rw [hw]
            rfl
        · have hl := enc8_len (foldI (c : Int))
          have := ih (p + d) (out ++ enc8 (foldI (c : Int))) (by omega) hnx (by rw [List.length_append]; omega)
          simpa [foldL] using this
      · have : p = s.length := by omega
        subst this
        refine TendsL.fin (Tends.of fun F => ?_)
        unfold M_sign_Fold_l0
        simp [signs_nil, foldL]
  exact main _ p out (Nat.le_refl _) hp ho

theorem fold_tends (s : List UInt8) (hs : s.length ≤ 100000000000) : Tends (fun F => M_sign_Fold F s) (foldL (signs s)) := by
  unfold M_sign_Fold
  have := foldLoop s hs 0 (by omega) [] (by simp; omega)
  refine this.run.bind ?_
  exact Tends.of fun F => by simp [M_strings_Builder_String]

end Go.Vm
