/- The digest, plainly: what comes behind a text; blocks; the program's digest. No condition. -/
import Derived.Test.YtmbnnjpdpginlaaGreatDoorPsha2
import Derived.Test.YtmbnnjpdpginlaaGreatDoorPbase
namespace Go.Vm
set_option linter.unusedVariables false
open Go

def H0 : S8 := ⟨1779033703, 3144134277, 1013904242, 2773480762, 1359893119, 2600822924, 528734635, 1541459225⟩
/-- So many blocks. -/
def bks : Nat → S8 → List UInt8 → S8
  | 0, s, _ => s
  | n + 1, s, t => bks n (comp s t) (t.drop 64)

theorem comp_take (s : S8) (l : List UInt8) : comp s (l.take 64) = comp s l := by
  unfold comp
  rw [sched_congr (fun i hi => be_take l i hi) 64]
theorem comp_append (s : S8) (l p : List UInt8) (hl : 64 ≤ l.length) : comp s (l ++ p) = comp s l := by
  unfold comp
  rw [sched_congr (fun i hi => be_append l p i hi hl) 64]

theorem bks_append (p : List UInt8) : ∀ (n : Nat) (s : S8) (t : List UInt8), 64 * n ≤ t.length → bks n s (t ++ p) = bks n s t
  | 0, _, _, _ => rfl
  | n + 1, s, t, h => by
    simp only [bks]
    rw [comp_append s t p (by omega), List.drop_append_of_le_length (by omega)]
    exact bks_append p n _ _ (by simp; omega)
theorem bks_add : ∀ (n m : Nat) (s : S8) (t : List UInt8), bks (n + m) s t = bks m (bks n s t) (t.drop (64 * n))
  | 0, m, s, t => by simp [bks]
  | n + 1, m, s, t => by
    have e : n + 1 + m = (n + m) + 1 := by omega
    rw [e]
    simp only [bks]
    rw [bks_add n m, List.drop_drop]
    congr 2
    omega

/-- The noughts behind a text. -/
def zs (n : Nat) : Nat := (64 - (n + 9) % 64) % 64
def byteK (n : Int) (k : Nat) : UInt8 := UInt8.ofNat (IntKind.u8.wrap (shr IntKind.u64 n (8 * (k : Int)))).toNat
def tail8 (n : Int) : List UInt8 := [byteK n 7, byteK n 6, byteK n 5, byteK n 4, byteK n 3, byteK n 2, byteK n 1, byteK n 0]
def pad (n : Nat) : List UInt8 := UInt8.ofNat 128 :: List.replicate (zs n) 0 ++ tail8 (IntKind.u64.wrap (IntKind.u64.wrap (n : Int) * 8))
theorem pad_len (n : Nat) : (pad n).length = 9 + zs n := by simp [pad, tail8]; omega
theorem pad_mod (n : Nat) : (n + (pad n).length) % 64 = 0 := by rw [pad_len]; unfold zs; omega

def by4 (w : Int) : List UInt8 := [UInt8.ofNat (IntKind.u8.wrap (shr IntKind.u32 w 24)).toNat, UInt8.ofNat (IntKind.u8.wrap (shr IntKind.u32 w 16)).toNat, UInt8.ofNat (IntKind.u8.wrap (shr IntKind.u32 w 8)).toNat, UInt8.ofNat (IntKind.u8.wrap w).toNat]
def out8 (s : S8) : List UInt8 := by4 s.a ++ by4 s.b ++ by4 s.c ++ by4 s.d ++ by4 s.e ++ by4 s.f ++ by4 s.g ++ by4 s.h
/-- The digest. -/
def dig (s : List UInt8) : List UInt8 := out8 (bks ((s.length + (pad s.length).length) / 64) H0 (s ++ pad s.length))
theorem dig_len (s : List UInt8) : (dig s).length = 32 := rfl

abbrev HC := Int × Int × Int × Int × Int × Int × Int × Int × List UInt8 × Int × Unit
def hc (s : S8) (r : List UInt8) (n : Int) : HC := (s.a, s.b, s.c, s.d, s.e, s.f, s.g, s.h, r, n, ())

theorem write_step (s : S8) (r : List UInt8) (n : Int) (h : 64 ≤ r.length) : Tends (fun F => M_sha_Hash_Write_l0 F ((), hc s r n, ())) (.inl ((), hc (comp s r) (r.drop 64) n, ())) := by
  unfold M_sha_Hash_Write_l0
  have hc1 : decide ((64 : Int) ≤ (r.length : Int)) = true := by simp; omega
  have e : sub r 0 64 = some (r.take 64) := by
    have := subN r 0 64 (by omega) h
    simpa using this
  have e2 : sub r 64 (r.length : Int) = some (r.drop 64) := by simpa using subE r 64 h
  have hs := step_tends s (r.take 64) (by simp; omega)
  rw [comp_take] at hs
  refine Tends.pos hc1 ?_
  refine Tends.bind (r := ((), hc (comp s r) r n, ())) ?_ ?_
  · refine Tends.bind (m := fun _ => sub r 0 64) (.const e) ?_
    exact Tends.bind (m := fun F => M_sha_step F (s.l, r.take 64)) hs (.ret _)
  · refine Tends.bind (m := fun _ => sub r 64 (r.length : Int)) (.const e2) ?_
    exact .ret _

theorem write_loop : ∀ (k : Nat) (s : S8) (r : List UInt8) (n : Int), r.length / 64 = k → TendsL M_sha_Hash_Write_l0 ((), hc s r n, ()) ((), hc (bks k s r) (r.drop (64 * k)) n, ())
  | 0, s, r, n, h => by
    refine TendsL.fin (.of fun F => ?_)
    unfold M_sha_Hash_Write_l0
    exact (if_neg (show ¬ (decide ((64 : Int) ≤ (r.length : Int)) = true) by simp; omega)).trans rfl
  | k + 1, s, r, n, h => by
    refine TendsL.step (write_step s r n (by omega)) ?_
    have := write_loop k (comp s r) (r.drop 64) n (by simp; omega)
    rw [List.drop_drop] at this
    have e : 64 + 64 * k = 64 * (k + 1) := by omega
    rw [e] at this
    exact this

theorem write_tends (s : S8) (r : List UInt8) (n : Int) (x : List UInt8) (hl : r.length + x.length ≤ 9223372036854775807) :
    Tends (fun F => M_sha_Hash_Write F (hc s r n, x)) ((), hc (bks ((r ++ x).length / 64) s (r ++ x)) ((r ++ x).drop (64 * ((r ++ x).length / 64))) (IntKind.i64.wrap (n + (x.length : Int)))) := by
  unfold M_sha_Hash_Write
  refine Tends.pos (show decide (r.length + x.length ≤ 9223372036854775807) = true by simpa using hl) ?_
  refine Tends.bind (write_loop _ s (r ++ x) (IntKind.i64.wrap (n + (x.length : Int))) rfl).run ?_
  exact .ret _

theorem wrap_add (a b : Nat) (h : a < 1000000000000000) (h' : b < 1000000000000000) : IntKind.i64.wrap (IntKind.i64.wrap ((a : Int) + (b : Int)) + 8) = ((a + b + 8 : Nat) : Int) := by
  have e : IntKind.i64.wrap ((a : Int) + (b : Int)) = (a : Int) + (b : Int) := by rw [wrap64] <;> omega
  rw [e, wrap64 _ (by omega) (by omega)]
  omega

theorem end_zeros (s : S8) (r : List UInt8) (n : Int) (hr : r.length < 64) : ∀ (m j : Nat), j + m = zs r.length → TendsL M_sha_Hash_end_l0 ((), (), UInt8.ofNat 128 :: List.replicate j 0, hc s r n, ()) ((), (), UInt8.ofNat 128 :: List.replicate (zs r.length) 0, hc s r n, ())
  | 0, j, h => by
    have : j = zs r.length := by omega
    subst this
    refine TendsL.fin (.of fun F => ?_)
    unfold M_sha_Hash_end_l0
    have e : IntKind.i64.wrap (IntKind.i64.wrap ((r.length : Int) + ((UInt8.ofNat 128 :: List.replicate (zs r.length) (0 : UInt8)).length : Int)) + 8) = ((r.length + zs r.length + 9 : Nat) : Int) := by
      have hz : zs r.length < 64 := by unfold zs; omega
      have hl : (UInt8.ofNat 128 :: List.replicate (zs r.length) (0 : UInt8)).length = zs r.length + 1 := by simp
      rw [hl, wrap_add _ _ (by omega) (by omega)]
      congr 1
    have e2 : ((r.length + zs r.length + 9 : Nat) : Int).tmod 64 = 0 := by
      rw [Int.tmod_eq_emod_of_nonneg (by omega)]
      unfold zs
      omega
    refine (if_neg (show ¬ ((!decide ((IntKind.i64.wrap (IntKind.i64.wrap ((r.length : Int) + ((UInt8.ofNat 128 :: List.replicate (zs r.length) (0 : UInt8)).length : Int)) + 8)).tmod 64 = 0)) = true) by rw [e, e2]; simp)).trans ?_
    rfl
  | m + 1, j, h => by
    have hz : zs r.length < 64 := by unfold zs; omega
    have e : IntKind.i64.wrap (IntKind.i64.wrap ((r.length : Int) + ((UInt8.ofNat 128 :: List.replicate j (0 : UInt8)).length : Int)) + 8) = ((r.length + j + 9 : Nat) : Int) := by
      have hl : (UInt8.ofNat 128 :: List.replicate j (0 : UInt8)).length = j + 1 := by simp
      rw [hl, wrap_add _ _ (by omega) (by omega)]
      congr 1
    have e2 : ((r.length + j + 9 : Nat) : Int).tmod 64 ≠ 0 := by
      rw [Int.tmod_eq_emod_of_nonneg (by omega)]
      unfold zs at h hz
      omega
    refine TendsL.step (x' := ((), (), UInt8.ofNat 128 :: List.replicate (j + 1) 0, hc s r n, ())) (.of fun F => ?_) (end_zeros s r n hr m (j + 1) (by omega))
    unfold M_sha_Hash_end_l0
    refine (if_pos (show (!decide ((IntKind.i64.wrap (IntKind.i64.wrap ((r.length : Int) + ((UInt8.ofNat 128 :: List.replicate j (0 : UInt8)).length : Int)) + 8)).tmod 64 = 0)) = true by rw [e, decide_eq_false e2]; rfl)).trans ((if_pos (show decide (((UInt8.ofNat 128 :: List.replicate j (0 : UInt8)).length + [UInt8.ofNat 0].length) * 1 ≤ 140737488355328) = true by simp; omega)).trans ?_)
    · have : (UInt8.ofNat 128 :: List.replicate j 0) ++ [UInt8.ofNat 0] = UInt8.ofNat 128 :: List.replicate (j + 1) (0 : UInt8) := by
        rw [List.cons_append, List.replicate_succ']
        rfl
      show some (Sum.inl ((), (), (UInt8.ofNat 128 :: List.replicate j 0) ++ [UInt8.ofNat 0], hc s r n, ())) = _
      rw [this]

theorem end_bytes (F : Nat) (s : S8) (r b : List UInt8) (n m : Int) (hb : b.length ≤ 1000000) : loopM (M_sha_Hash_end_l1 F) 9 ((), (), m, 7, b, hc s r n, ()) = some ((), (), b ++ tail8 m, hc s r n, ()) := by
  have st : ∀ (k : Nat) (c : List UInt8), k ≤ 7 → c.length ≤ 1000100 → M_sha_Hash_end_l1 F ((), (), m, (k : Int), c, hc s r n, ()) = some (.inl ((), (), m, (k : Int) - 1, c ++ [byteK m k], hc s r n, ())) := by
    intro k c hk hc'
    have w1 : IntKind.i64.wrap (8 * (k : Int)) = 8 * (k : Int) := by rw [wrap64] <;> omega
    have w2 : IntKind.i64.wrap ((k : Int) - 1) = (k : Int) - 1 := by rw [wrap64] <;> omega
    unfold M_sha_Hash_end_l1
    simp only [w1, w2]
    rw [if_pos (by simp), if_pos (by simp; omega), if_pos (by simp; omega)]
    try rfl
  have s7 := st 7 b (by omega) (by omega)
  have s6 := st 6 (b ++ [byteK m 7]) (by omega) (by simp; omega)
  have s5 := st 5 (b ++ [byteK m 7] ++ [byteK m 6]) (by omega) (by simp; omega)
  have s4 := st 4 (b ++ [byteK m 7] ++ [byteK m 6] ++ [byteK m 5]) (by omega) (by simp; omega)
  have s3 := st 3 (b ++ [byteK m 7] ++ [byteK m 6] ++ [byteK m 5] ++ [byteK m 4]) (by omega) (by simp; omega)
  have s2 := st 2 (b ++ [byteK m 7] ++ [byteK m 6] ++ [byteK m 5] ++ [byteK m 4] ++ [byteK m 3]) (by omega) (by simp; omega)
  have s1 := st 1 (b ++ [byteK m 7] ++ [byteK m 6] ++ [byteK m 5] ++ [byteK m 4] ++ [byteK m 3] ++ [byteK m 2]) (by omega) (by simp; omega)
  have s0 := st 0 (b ++ [byteK m 7] ++ [byteK m 6] ++ [byteK m 5] ++ [byteK m 4] ++ [byteK m 3] ++ [byteK m 2] ++ [byteK m 1]) (by omega) (by simp; omega)
  have se : M_sha_Hash_end_l1 F ((), (), m, ((0 : Nat) : Int) - 1, b ++ [byteK m 7] ++ [byteK m 6] ++ [byteK m 5] ++ [byteK m 4] ++ [byteK m 3] ++ [byteK m 2] ++ [byteK m 1] ++ [byteK m 0], hc s r n, ()) =
      some (.inr ((), (), b ++ [byteK m 7] ++ [byteK m 6] ++ [byteK m 5] ++ [byteK m 4] ++ [byteK m 3] ++ [byteK m 2] ++ [byteK m 1] ++ [byteK m 0], hc s r n, ())) := by
    unfold M_sha_Hash_end_l1
    exact (if_neg (by simp)).trans rfl
  have d7 : ((7 : Nat) : Int) - 1 = ((6 : Nat) : Int) := rfl
  have d6 : ((6 : Nat) : Int) - 1 = ((5 : Nat) : Int) := rfl
  have d5 : ((5 : Nat) : Int) - 1 = ((4 : Nat) : Int) := rfl
  have d4 : ((4 : Nat) : Int) - 1 = ((3 : Nat) : Int) := rfl
  have d3 : ((3 : Nat) : Int) - 1 = ((2 : Nat) : Int) := rfl
  have d2 : ((2 : Nat) : Int) - 1 = ((1 : Nat) : Int) := rfl
  have d1 : ((1 : Nat) : Int) - 1 = ((0 : Nat) : Int) := rfl
  rw [d7] at s7; rw [d6] at s6; rw [d5] at s5; rw [d4] at s4; rw [d3] at s3; rw [d2] at s2; rw [d1] at s1
  have s7' : M_sha_Hash_end_l1 F ((), (), m, 7, b, hc s r n, ()) = _ := s7
  simp only [loopM, s7', s6, s5, s4, s3, s2, s1, s0, se, Option.bind_some]
  simp [tail8]

theorem end_tends (s : S8) (r : List UInt8) (n : Nat) (hr : r.length = n % 64) : Tends (fun F => M_sha_Hash_end F (hc s r (n : Int))) (pad n, hc s r (n : Int)) := by
  have hz : zs r.length = zs n := by unfold zs; rw [hr]; omega
  unfold M_sha_Hash_end
  refine Tends.bind (end_zeros s r (n : Int) (by omega) (zs r.length) 0 (by omega)).run ?_
  have key : Tends (fun F => loopM (M_sha_Hash_end_l1 F) F ((), (), IntKind.u64.wrap (IntKind.u64.wrap (n : Int) * 8), 7, UInt8.ofNat 128 :: List.replicate (zs r.length) 0, hc s r (n : Int), ())) ((), (), pad n, hc s r (n : Int), ()) := by
    refine ⟨9, fun F hF => ?_⟩
    have hz64 : zs r.length < 64 := by unfold zs; omega
    have := end_bytes F s r (UInt8.ofNat 128 :: List.replicate (zs r.length) 0) (n : Int) (IntKind.u64.wrap (IntKind.u64.wrap (n : Int) * 8)) (by simp; omega)
    have := (Le.loop (fun x => Le.refl _) hF _).le _ this
    refine this.trans ?_
    unfold pad
    rw [hz]
  exact Tends.bind key (.ret _)

theorem sum_out (F : Nat) (s x : S8) (r : List UInt8) (n : Int) : loopM (M_sha_Hash_Sum_l0 F) 9 ((), (), x.l, 0, [], hc s r n, ()) = some ((), (), out8 x, hc s r n, ()) := by
  obtain ⟨a, b, c, d, e, f, g, h⟩ := x
  rfl

theorem hsum_tends (s : S8) (r : List UInt8) (n : Nat) (hr : r.length = n % 64) : Tends (fun F => M_sha_Hash_Sum F (hc s r (n : Int))) (out8 (bks ((r ++ pad n).length / 64) s (r ++ pad n)), hc s r (n : Int)) := by
  have hp := pad_len n
  have hz : zs n < 64 := by unfold zs; omega
  unfold M_sha_Hash_Sum
  refine Tends.bind (m := fun F => M_sha_Hash_end F (hc s r (n : Int))) (end_tends s r n hr) ?_
  refine Tends.bind (m := fun F => M_sha_Hash_Write F (hc s r (n : Int), pad n)) (write_tends s r (n : Int) (pad n) (by omega)) ?_
  have key : ∀ x : S8, Tends (fun F => loopM (M_sha_Hash_Sum_l0 F) F ((), (), x.l, 0, [], hc s r (n : Int), ())) ((), (), out8 x, hc s r (n : Int), ()) := fun x =>
    ⟨9, fun F hF => (Le.loop (fun x => Le.refl _) hF _).le _ (sum_out F s x r n)⟩
  exact Tends.bind (key (bks ((r ++ pad n).length / 64) s (r ++ pad n))) (.ret _)

/-- THE PROGRAM'S DIGEST. -/
theorem sha_tends (s : List UInt8) (hs : s.length ≤ 1000000000000) : Tends (fun F => M_sha_Sum F s) (dig s) := by
  unfold M_sha_Sum
  refine Tends.bind (r := hc H0 [] 0) (.of fun F => rfl) ?_
  have hw := write_tends H0 [] 0 s (by simp; omega)
  have e0 : IntKind.i64.wrap (0 + (s.length : Int)) = (s.length : Int) := by rw [wrap64] <;> omega
  rw [List.nil_append, e0] at hw
  refine Tends.bind (m := fun F => M_sha_Hash_Write F (hc H0 [] 0, s)) hw ?_
  have hS := hsum_tends (bks (s.length / 64) H0 s) (s.drop (64 * (s.length / 64))) s.length (by simp; omega)
  have hfin : bks ((s.drop (64 * (s.length / 64)) ++ pad s.length).length / 64) (bks (s.length / 64) H0 s) (s.drop (64 * (s.length / 64)) ++ pad s.length) = bks ((s.length + (pad s.length).length) / 64) H0 (s ++ pad s.length) := by
    have e1 : (s.length + (pad s.length).length) / 64 = s.length / 64 + (s.drop (64 * (s.length / 64)) ++ pad s.length).length / 64 := by
      rw [List.length_append, List.length_drop]
      omega
    rw [e1, bks_add, bks_append (pad s.length) (s.length / 64) H0 s (by omega), List.drop_append_of_le_length (by omega)]
  rw [hfin] at hS
  exact Tends.bind hS (.ret _)

end Go.Vm
