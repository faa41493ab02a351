/- The digest, plainly: the document's. No condition. -/
import Derived.Test.YtmbnnjpdpginlaaGreatDoorPsha3
namespace Go.Vm
set_option linter.unusedVariables false
open Go

theorem rpad_zeros (s : List UInt8) (hs : s.length ≤ 1000000000000) : ∀ (m j : Nat), j + m = zs s.length → TendsL M_conciergeref03_Padded_l0 (s, (), s ++ UInt8.ofNat 128 :: List.replicate j 0, ()) (s, (), s ++ UInt8.ofNat 128 :: List.replicate (zs s.length) 0, ())
  | 0, j, h => by
    have : j = zs s.length := by omega
    subst this
    refine TendsL.fin (.of fun F => ?_)
    unfold M_conciergeref03_Padded_l0
    have hl : (s ++ UInt8.ofNat 128 :: List.replicate (zs s.length) 0).length = s.length + zs s.length + 1 := by simp; omega
    have e2 : ((s ++ UInt8.ofNat 128 :: List.replicate (zs s.length) 0).length : Int).tmod 64 = 56 := by
      rw [hl, Int.tmod_eq_emod_of_nonneg (by omega)]
      unfold zs
      omega
    refine (if_neg (show ¬ ((!decide (((s ++ UInt8.ofNat 128 :: List.replicate (zs s.length) 0).length : Int).tmod 64 = 56)) = true) by rw [e2]; simp)).trans ?_
    rfl
  | m + 1, j, h => by
    have hz : zs s.length < 64 := by unfold zs; omega
    have hl : (s ++ UInt8.ofNat 128 :: List.replicate j 0).length = s.length + j + 1 := by simp; omega
    have e2 : ((s ++ UInt8.ofNat 128 :: List.replicate j 0).length : Int).tmod 64 ≠ 56 := by
      rw [hl, Int.tmod_eq_emod_of_nonneg (by omega)]
      unfold zs at h hz
      omega
    refine TendsL.step (x' := (s, (), s ++ UInt8.ofNat 128 :: List.replicate (j + 1) 0, ())) (.of fun F => ?_) (rpad_zeros s hs m (j + 1) (by omega))
    unfold M_conciergeref03_Padded_l0
    refine (if_pos (show (!decide (((s ++ UInt8.ofNat 128 :: List.replicate j 0).length : Int).tmod 64 = 56)) = true by rw [decide_eq_false e2]; rfl)).trans
      ((if_pos (show decide (((s ++ UInt8.ofNat 128 :: List.replicate j 0).length + [UInt8.ofNat 0].length) * 1 ≤ 140737488355328) = true by rw [hl]; simp; omega)).trans ?_)
    have : (s ++ UInt8.ofNat 128 :: List.replicate j 0) ++ [UInt8.ofNat 0] = s ++ UInt8.ofNat 128 :: List.replicate (j + 1) (0 : UInt8) := by
      rw [List.append_assoc, List.cons_append, List.replicate_succ']
      rfl
    show some (Sum.inl (s, (), (s ++ UInt8.ofNat 128 :: List.replicate j 0) ++ [UInt8.ofNat 0], ())) = _
    rw [this]

theorem rpad_bytes (F : Nat) (b : List UInt8) (m : Int) (hb : b.length ≤ 2000000000000) : loopM (M_conciergeref03_Padded_l1 F) 9 ((), m, 7, b, ()) = some ((), b ++ tail8 m, ()) := by
  have st : ∀ (k : Nat) (c : List UInt8), k ≤ 7 → c.length ≤ 2000000000100 → M_conciergeref03_Padded_l1 F ((), m, (k : Int), c, ()) = some (.inl ((), m, (k : Int) - 1, c ++ [byteK m k], ())) := by
    intro k c hk hc'
    have w1 : IntKind.i64.wrap (8 * (k : Int)) = 8 * (k : Int) := by rw [wrap64] <;> omega
    have w2 : IntKind.i64.wrap ((k : Int) - 1) = (k : Int) - 1 := by rw [wrap64] <;> omega
    unfold M_conciergeref03_Padded_l1
    simp only [w1, w2]
    rw [if_pos (by simp), if_pos (by simp; omega), if_pos (by simp; omega)]
    try rfl
  have s7 := st 7 b (by omega) (by omega)
  have s6 := st 6 (b ++ [byteK m 7]) (by omega) (by simp; omega)
  have s5 := st 5 (b ++ [byteK m 7] ++ [byteK m 6]) (by omega) (by simp; omega)
  have s4 := st 4 (b ++ [byteK m 7] ++ [byteK m 6] ++ [byteK m 5]) (by omega) (by simp; omega)
  have s3 := st 3 (b ++ [byteK m 7] ++ [byteK m 6] ++ [byteK m 5] ++ [byteK m 4]) (by omega) (by simp; omega)
  have s2 := st 2 (b ++ [byteK m 7] ++ [byteK m 6] ++ [byteK m 5] ++ [byteK m 4] ++ [byteK m 3]) (by omega) (by simp; omega)
  have s1 := st 1 (b ++ [byteK m 7] ++ [byteK m 6] ++ [byteK m 5] ++ [byteK m 4] ++ [byteK m 3] ++ [byteK m 2]) (by omega) (by simp; omega)
  have s0 := st 0 (b ++ [byteK m 7] ++ [byteK m 6] ++ [byteK m 5] ++ [byteK m 4] ++ [byteK m 3] ++ [byteK m 2] ++ [byteK m 1]) (by omega) (by simp; omega)
  have se : M_conciergeref03_Padded_l1 F ((), m, ((0 : Nat) : Int) - 1, b ++ [byteK m 7] ++ [byteK m 6] ++ [byteK m 5] ++ [byteK m 4] ++ [byteK m 3] ++ [byteK m 2] ++ [byteK m 1] ++ [byteK m 0], ()) =
      some (.inr ((), b ++ [byteK m 7] ++ [byteK m 6] ++ [byteK m 5] ++ [byteK m 4] ++ [byteK m 3] ++ [byteK m 2] ++ [byteK m 1] ++ [byteK m 0], ())) := by
    unfold M_conciergeref03_Padded_l1
    exact (if_neg (by simp)).trans rfl
  have d7 : ((7 : Nat) : Int) - 1 = ((6 : Nat) : Int) := rfl
  have d6 : ((6 : Nat) : Int) - 1 = ((5 : Nat) : Int) := rfl
  have d5 : ((5 : Nat) : Int) - 1 = ((4 : Nat) : Int) := rfl
  have d4 : ((4 : Nat) : Int) - 1 = ((3 : Nat) : Int) := rfl
  have d3 : ((3 : Nat) : Int) - 1 = ((2 : Nat) : Int) := rfl
  have d2 : ((2 : Nat) : Int) - 1 = ((1 : Nat) : Int) := rfl
  have d1 : ((1 : Nat) : Int) - 1 = ((0 : Nat) : Int) := rfl
  rw [d7] at s7; rw [d6] at s6; rw [d5] at s5; rw [d4] at s4; rw [d3] at s3; rw [d2] at s2; rw [d1] at s1
  have s7' : M_conciergeref03_Padded_l1 F ((), m, 7, b, ()) = _ := s7
  simp only [loopM, s7', s6, s5, s4, s3, s2, s1, s0, se, Option.bind_some]
  simp [tail8]

theorem padded_tends (s : List UInt8) (hs : s.length ≤ 1000000000000) : Tends (fun F => M_conciergeref03_Padded F s) (s ++ pad s.length) := by
  unfold M_conciergeref03_Padded
  refine Tends.pos (by simp; omega) (Tends.pos (by simp; omega) ?_)
  refine Tends.bind (rpad_zeros s hs (zs s.length) 0 (by omega)).run ?_
  have hz : zs s.length < 64 := by unfold zs; omega
  have key : Tends (fun F => loopM (M_conciergeref03_Padded_l1 F) F ((), IntKind.u64.wrap (IntKind.u64.wrap (s.length : Int) * 8), 7, s ++ UInt8.ofNat 128 :: List.replicate (zs s.length) 0, ())) ((), s ++ pad s.length, ()) := by
    refine ⟨9, fun F hF => ?_⟩
    have := rpad_bytes F (s ++ UInt8.ofNat 128 :: List.replicate (zs s.length) 0) (IntKind.u64.wrap (IntKind.u64.wrap (s.length : Int) * 8)) (by simp; omega)
    refine ((Le.loop (fun x => Le.refl _) hF _).le _ this).trans ?_
    unfold pad
    simp
  exact Tends.bind key (.ret _)

/-- Four bytes into a word. -/
theorem r0_step (F : Nat) (t : List UInt8) (p i j : Nat) (hj : j < 4) (hi : i < 16) (hp : p + 64 ≤ t.length) (ht : t.length ≤ 2000000000000) (v ks pre post : List Int) (hpre : pre.length = i) (a : Nat) (ha : a < 16777216) :
    M_conciergeref03_Sum_l0 F ((), (), t, (p : Int), (), (i : Int), (j : Int), v, ks, pre ++ (a : Int) :: post, ()) =
      some (.inl ((), (), t, (p : Int), (), (i : Int), ((j + 1 : Nat) : Int), v, ks, pre ++ ((a * 256 + (t.getD (p + 4 * i + j) 0).toNat : Nat) : Int) :: post, ())) := by
  have h1 : (j : Int) < 4 := by omega
  have h2 : (i : Int) < 64 := by omega
  have h0 : (0 : Int) ≤ (i : Int) := by omega
  have e1 : IntKind.i64.wrap (4 * (i : Int)) = 4 * (i : Int) := by rw [wrap64] <;> omega
  have e2 : IntKind.i64.wrap ((p : Int) + 4 * (i : Int)) = (p : Int) + 4 * (i : Int) := by rw [wrap64] <;> omega
  have e3 : IntKind.i64.wrap ((p : Int) + 4 * (i : Int) + (j : Int)) = (p : Int) + 4 * (i : Int) + (j : Int) := by rw [wrap64] <;> omega
  have hx := idx_b t (p + 4 * i + j) ((p : Int) + 4 * (i : Int) + (j : Int)) (by omega) (by omega)
  have hb := (t.getD (p + 4 * i + j) 0).toNat_lt
  have w1 : IntKind.u32.wrap ((a : Int) * 256) = (a : Int) * 256 := wrapU32' _ (by omega) (by omega)
  have w2 : IntKind.u32.wrap ((t.getD (p + 4 * i + j) 0).toNat : Int) = ((t.getD (p + 4 * i + j) 0).toNat : Int) := wrapU32' _ (by omega) (by omega)
  have w3 : IntKind.u32.wrap ((a : Int) * 256 + ((t.getD (p + 4 * i + j) 0).toNat : Int)) = ((a * 256 + (t.getD (p + 4 * i + j) 0).toNat : Nat) : Int) := by rw [wrapU32' _ (by omega) (by omega)]; omega
  have g : (pre ++ (a : Int) :: post)[i]? = some (a : Int) := by rw [← hpre]; simp
  have st : aset (pre ++ (a : Int) :: post) i ((a * 256 + (t.getD (p + 4 * i + j) 0).toNat : Nat) : Int) = some (pre ++ ((a * 256 + (t.getD (p + 4 * i + j) 0).toNat : Nat) : Int) :: post) := by
    unfold aset
    rw [if_pos (by simp; omega), ← hpre, List.set_append_right _ _ (Nat.le_refl _)]
    simp
  have hn := next_nat j (by omega)
  unfold M_conciergeref03_Sum_l0
  simp only [h1, h2, h0, decide_true, if_true, Bool.and_self, anth, Int.toNat_natCast, g, Option.bind_some, e1, e2, e3, hx, w1, w2, w3, st, hn]

theorem r0_word (t : List UInt8) (p i : Nat) (hi : i < 16) (hp : p + 64 ≤ t.length) (ht : t.length ≤ 2000000000000) (v ks pre post : List Int) (hpre : pre.length = i) :
    TendsL M_conciergeref03_Sum_l0 ((), (), t, (p : Int), (), (i : Int), 0, v, ks, pre ++ (0 : Int) :: post, ()) ((), (), t, (p : Int), (), (i : Int), v, ks, pre ++ ((be (t.drop p) i : Nat) : Int) :: post, ()) := by
  have hb : ∀ k, (t.getD (p + k) 0).toNat < 256 := fun k => (t.getD (p + k) 0).toNat_lt
  have b0 := hb (4 * i + 0); have b1 := hb (4 * i + 1); have b2 := hb (4 * i + 2); have b3 := hb (4 * i + 3)
  simp only [← Nat.add_assoc] at b0 b1 b2 b3
  have gd : ∀ k, (t.drop p).getD k 0 = t.getD (p + k) 0 := fun k => by simp [List.getD_eq_getElem?_getD]
  refine TendsL.step (.of fun F => r0_step F t p i 0 (by omega) hi hp ht v ks pre post hpre 0 (by omega)) ?_
  refine TendsL.step (.of fun F => r0_step F t p i 1 (by omega) hi hp ht v ks pre post hpre _ (by omega)) ?_
  refine TendsL.step (.of fun F => r0_step F t p i 2 (by omega) hi hp ht v ks pre post hpre _ (by omega)) ?_
  refine TendsL.step (.of fun F => r0_step F t p i 3 (by omega) hi hp ht v ks pre post hpre _ (by omega)) ?_
  refine TendsL.fin (.of fun F => ?_)
  unfold M_conciergeref03_Sum_l0
  refine (if_neg (by simp)).trans ?_
  have e : be (t.drop p) i = (((0 * 256 + (t.getD (p + 4 * i + 0) 0).toNat) * 256 + (t.getD (p + 4 * i + 1) 0).toNat) * 256 + (t.getD (p + 4 * i + 2) 0).toNat) * 256 + (t.getD (p + 4 * i + 3) 0).toNat := by
    unfold be
    rw [gd, gd, gd, gd]
    simp only [Nat.zero_mul, Nat.zero_add, Nat.add_zero, ← Nat.add_assoc]
  rw [e]

theorem r1_step (t : List UInt8) (p i : Nat) (hi : i < 64) (hp : p + 64 ≤ t.length) (ht : t.length ≤ 2000000000000) (v ks : List Int) :
    Tends (fun F => M_conciergeref03_Sum_l1 F ((), (), t, (p : Int), (), (i : Int), v, ks, arr (t.drop p) i, ())) (.inl ((), (), t, (p : Int), (), ((i + 1 : Nat) : Int), v, ks, arr (t.drop p) (i + 1), ())) := by
  have h1 : decide ((i : Int) < 64) = true := by simp; omega
  have hn := next_nat i (by omega)
  by_cases h16 : i < 16
  · have hw := r0_word t p i h16 hp ht v ks (sched (t.drop p) i) (List.replicate (63 - i) 0) (sched_len _ i)
    rw [← arr_head (t.drop p) i hi] at hw
    have hnx : ((be (t.drop p) i : Nat) : Int) = nxt (t.drop p) (sched (t.drop p) i) i := by unfold nxt; rw [if_pos h16]
    rw [hnx, arr_next (t.drop p) i hi] at hw
    unfold M_conciergeref03_Sum_l1
    refine Tends.pos h1 ?_
    refine Tends.bind (r := ((), (), t, (p : Int), (), (i : Int), v, ks, arr (t.drop p) (i + 1), ())) ?_ ?_
    · refine Tends.pos (show decide ((i : Int) < 16) = true by simp; omega) ?_
      exact Tends.bind hw.run (.ret _)
    · refine Tends.of fun F => ?_
      simp only [hn]
  · refine Tends.of fun F => ?_
    have w : ∀ k : Nat, k ≤ 16 → IntKind.i64.wrap ((i : Int) - (k : Int)) = ((i - k : Nat) : Int) := by intro k hk; rw [wrap64] <;> omega
    have w15 : IntKind.i64.wrap ((i : Int) - 15) = ((i - 15 : Nat) : Int) := w 15 (by omega)
    have w2 : IntKind.i64.wrap ((i : Int) - 2) = ((i - 2 : Nat) : Int) := w 2 (by omega)
    have w16 : IntKind.i64.wrap ((i : Int) - 16) = ((i - 16 : Nat) : Int) := w 16 (by omega)
    have w7 : IntKind.i64.wrap ((i : Int) - 7) = ((i - 7 : Nat) : Int) := w 7 (by omega)
    have c : ∀ k : Nat, k < 64 → (decide ((0 : Int) ≤ (k : Int)) && decide ((k : Int) < 64)) = true := by intro k hk; simp; omega
    have h0 : (0 : Int) ≤ (i : Int) := by omega
    have hlt : (i : Int) < 64 := by omega
    have hn16 : ¬ ((i : Int) < 16) := by omega
    have g15 := arr_get (t.drop p) i (i - 15) (by omega)
    have g2 := arr_get (t.drop p) i (i - 2) (by omega)
    have g16 := arr_get (t.drop p) i (i - 16) (by omega)
    have g7 := arr_get (t.drop p) i (i - 7) (by omega)
    have ha := aset_arr (t.drop p) i hi
    unfold nxt at ha
    rw [if_neg h16] at ha
    unfold M_conciergeref03_Sum_l1
    simp only [hlt, hn16, h0, decide_true, decide_false, if_true, Bool.false_eq_true, if_false, Bool.and_self, w15, w2, w16, w7, c (i - 15) (by omega), c (i - 2) (by omega), c (i - 16) (by omega), c (i - 7) (by omega), anth, Int.toNat_natCast, g15, g2, g16, g7, Option.bind_some,
      right_ref F _ 7 (by decide) (by decide), right_ref F _ 18 (by decide) (by decide), right_ref F _ 17 (by decide) (by decide), right_ref F _ 19 (by decide) (by decide), ha, hn]

theorem r1_all (t : List UInt8) (p : Nat) (hp : p + 64 ≤ t.length) (ht : t.length ≤ 2000000000000) (v ks : List Int) : ∀ (m i : Nat), i + m = 64 →
    TendsL M_conciergeref03_Sum_l1 ((), (), t, (p : Int), (), (i : Int), v, ks, arr (t.drop p) i, ()) ((), (), t, (p : Int), (), v, ks, sched (t.drop p) 64, ())
  | 0, i, h => by
    have : i = 64 := by omega
    subst this
    refine TendsL.fin (.of fun F => ?_)
    unfold M_conciergeref03_Sum_l1
    refine (if_neg (by simp)).trans ?_
    rw [← arr_all]
  | m + 1, i, h => TendsL.step (r1_step t p i (by omega) hp ht v ks) (r1_all t p hp ht v ks m (i + 1) (by omega))

theorem r3_step (t : List UInt8) (p : Nat) (hp : p + 64 ≤ t.length) (ht : t.length ≤ 2000000000000) (s : S8) :
    Tends (fun F => M_conciergeref03_Sum_l3 F ((), (), t, (p : Int), s.l, K64, ())) (.inl ((), (), t, ((p + 64 : Nat) : Int), (comp s (t.drop p)).l, K64, ())) := by
  have hn : IntKind.i64.wrap ((p : Int) + 64) = ((p + 64 : Nat) : Int) := by rw [wrap64] <;> omega
  unfold M_conciergeref03_Sum_l3
  refine Tends.pos (show decide ((p : Int) < (t.length : Int)) = true by simp; omega) ?_
  have h1 := r1_all t p hp ht s.l K64 64 0 rfl
  rw [← zeros64] at h1
  refine Tends.bind h1.run ?_
  refine Tends.bind (r := ((), (), t, (p : Int), (), s.a, s.b, s.c, s.d, s.e, s.f, s.g, s.h, s.l, K64, sched (t.drop p) 64, ())) (.of fun F => rfl) ?_
  have h2 := ref_rounds t (p : Int) s.l K64 (sched (t.drop p) 64) rfl (sched_len _ 64) s 0 (by omega)
  refine Tends.bind h2.run ?_
  refine Tends.of fun F => ?_
  have e : (comp s (t.drop p)).l = (add8 s (rounds K64 (sched (t.drop p) 64) s 64)).l := rfl
  rw [← hn, e]
  rfl

theorem r3_all (t : List UInt8) (hm : t.length % 64 = 0) (ht : t.length ≤ 2000000000000) : ∀ (k p : Nat) (s : S8), p + 64 * k = t.length →
    TendsL M_conciergeref03_Sum_l3 ((), (), t, (p : Int), s.l, K64, ()) ((), (bks k s (t.drop p)).l, ())
  | 0, p, s, h => by
    refine TendsL.fin (.of fun F => ?_)
    unfold M_conciergeref03_Sum_l3
    exact (if_neg (show ¬ (decide ((p : Int) < (t.length : Int)) = true) by simp; omega)).trans rfl
  | k + 1, p, s, h => by
    refine TendsL.step (r3_step t p (by omega) ht s) ?_
    have := r3_all t hm ht k (p + 64) (comp s (t.drop p)) (by omega)
    simp only [bks, List.drop_drop]
    exact this

theorem r4_out (F : Nat) (x : S8) : loopM (M_conciergeref03_Sum_l4 F) 9 ((), [], 0, x.l, ()) = some (out8 x, ()) := by
  obtain ⟨a, b, c, d, e, f, g, h⟩ := x
  rfl

/-- THE DOCUMENT'S DIGEST. -/
theorem ref3_tends (s : List UInt8) (hs : s.length ≤ 1000000000000) : Tends (fun F => M_conciergeref03_Sum F s) (dig s) := by
  have hp := pad_len s.length
  have hz : zs s.length < 64 := by unfold zs; omega
  have hmod := pad_mod s.length
  unfold M_conciergeref03_Sum
  refine Tends.bind (r := (H0.l, K64)) (.of fun F => rfl) ?_
  refine Tends.bind (padded_tends s hs) ?_
  have h3 := r3_all (s ++ pad s.length) (by simpa using hmod) (by simp; omega) ((s.length + (pad s.length).length) / 64) 0 H0 (by simp; omega)
  rw [List.drop_zero] at h3
  refine Tends.bind h3.run ?_
  have key : Tends (fun F => loopM (M_conciergeref03_Sum_l4 F) F ((), [], 0, (bks ((s.length + (pad s.length).length) / 64) H0 (s ++ pad s.length)).l, ())) (dig s, ()) :=
    ⟨9, fun F hF => (Le.loop (fun x => Le.refl _) hF _).le _ (r4_out F _)⟩
  exact Tends.bind key (.ret _)

end Go.Vm
