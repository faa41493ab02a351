/- The digest, plainly: a block's words; a block more. No condition. -/
import Derived.Test.YtmbnnjpdpginlaaGreatDoorPsha1
namespace Go.Vm
set_option linter.unusedVariables false
open Go

theorem wrapU32' (n : Int) (h : 0 ≤ n) (h' : n < 4294967296) : IntKind.u32.wrap n = n := by
  simp only [IntKind.wrap, IntKind.signed, IntKind.bits]
  simp
  omega

theorem ior_nat (a b : Nat) (ha : a < 4294967296) (hb : b < 4294967296) : ior .u32 (a : Int) (b : Int) = ((a ||| b : Nat) : Int) := by
  unfold ior
  have e : (BitVec.ofInt IntKind.u32.bits (a : Int) ||| BitVec.ofInt IntKind.u32.bits (b : Int)).toNat = a ||| b := by
    rw [BitVec.toNat_or]
    show (BitVec.ofInt 32 (a : Int)).toNat ||| (BitVec.ofInt 32 (b : Int)).toNat = _
    rw [BitVec.toNat_ofInt, BitVec.toNat_ofInt]
    have h1 : ((a : Int) % ((2 ^ 32 : Nat) : Int)).toNat = a := by omega
    have h2 : ((b : Int) % ((2 ^ 32 : Nat) : Int)).toNat = b := by omega
    rw [h1, h2]
  rw [e]
  have hlt : a ||| b < 2 ^ 32 := Nat.or_lt_two_pow ha hb
  rw [wrapU32' _ (by omega) (by omega)]

theorem shl_nat (a : Nat) (k m : Nat) (n : Int) (hn : n = (k : Int)) (hk : k ≤ 32) (hm : 2 ^ k = m) (ha : a * m < 4294967296) : shl .u32 (a : Int) n = ((a * m : Nat) : Int) := by
  subst hn
  subst hm
  unfold shl
  have e : min (k : Int).toNat IntKind.u32.bits = k := by
    show min (k : Int).toNat 32 = k
    omega
  rw [e]
  have : ((a : Int) * 2 ^ k) = ((a * 2 ^ k : Nat) : Int) := by push_cast; rfl
  rw [this, wrapU32' _ (by omega) (by omega)]

/-- A word of four bytes. -/
def be (l : List UInt8) (i : Nat) : Nat := (((l.getD (4 * i) 0).toNat * 256 + (l.getD (4 * i + 1) 0).toNat) * 256 + (l.getD (4 * i + 2) 0).toNat) * 256 + (l.getD (4 * i + 3) 0).toNat

theorem word_or (a b c d : UInt8) : ior .u32 (ior .u32 (ior .u32 (shl .u32 (IntKind.u32.wrap (a.toNat : Int)) 24) (shl .u32 (IntKind.u32.wrap (b.toNat : Int)) 16)) (shl .u32 (IntKind.u32.wrap (c.toNat : Int)) 8)) (IntKind.u32.wrap (d.toNat : Int)) =
    (((((a.toNat * 256 + b.toNat) * 256 + c.toNat) * 256 + d.toNat : Nat)) : Int) := by
  have ha := a.toNat_lt; have hb := b.toNat_lt; have hc := c.toNat_lt; have hd := d.toNat_lt
  rw [wrapU32' _ (by omega) (by omega), wrapU32' _ (by omega) (by omega), wrapU32' _ (by omega) (by omega), wrapU32' _ (by omega) (by omega)]
  rw [shl_nat a.toNat 24 16777216 24 (by decide) (by decide) (by decide) (by omega), shl_nat b.toNat 16 65536 16 (by decide) (by decide) (by decide) (by omega), shl_nat c.toNat 8 256 8 (by decide) (by decide) (by decide) (by omega)]
  have key : ∀ (p q i m : Nat), 2 ^ i = m → q < m → p * m ||| q = p * m + q := by
    intro p q i m hm hq
    have := Nat.shiftLeft_add_eq_or_of_lt (b := q) (i := i) (by omega) p
    rw [Nat.shiftLeft_eq, hm] at this
    exact this.symm
  have o1 : a.toNat * 16777216 ||| b.toNat * 65536 = a.toNat * 16777216 + b.toNat * 65536 := key _ _ 24 _ (by decide) (by omega)
  rw [ior_nat _ _ (by omega) (by omega), o1]
  have o2 : (a.toNat * 16777216 + b.toNat * 65536) ||| c.toNat * 256 = a.toNat * 16777216 + b.toNat * 65536 + c.toNat * 256 := by
    have := key (a.toNat * 256 + b.toNat) (c.toNat * 256) 16 65536 (by decide) (by omega)
    have e : (a.toNat * 256 + b.toNat) * 65536 = a.toNat * 16777216 + b.toNat * 65536 := by omega
    rw [e] at this
    exact this
  rw [ior_nat _ _ (by omega) (by omega), o2]
  have o3 : (a.toNat * 16777216 + b.toNat * 65536 + c.toNat * 256) ||| d.toNat = a.toNat * 16777216 + b.toNat * 65536 + c.toNat * 256 + d.toNat := by
    have := key (a.toNat * 65536 + b.toNat * 256 + c.toNat) d.toNat 8 256 (by decide) (by omega)
    have e : (a.toNat * 65536 + b.toNat * 256 + c.toNat) * 256 = a.toNat * 16777216 + b.toNat * 65536 + c.toNat * 256 := by omega
    rw [e] at this
    exact this
  rw [ior_nat _ _ (by omega) (by omega), o3]
  exact congrArg (Nat.cast : Nat → Int) (by omega)

def nxt (l : List UInt8) (ws : List Int) (i : Nat) : Int :=
  if i < 16 then (be l i : Int) else
    IntKind.u32.wrap (IntKind.u32.wrap (IntKind.u32.wrap (ws.getD (i - 16) 0 + ixor .u32 (ixor .u32 (rot (ws.getD (i - 15) 0) 7) (rot (ws.getD (i - 15) 0) 18)) (shr .u32 (ws.getD (i - 15) 0) 3)) + ws.getD (i - 7) 0) +
      ixor .u32 (ixor .u32 (rot (ws.getD (i - 2) 0) 17) (rot (ws.getD (i - 2) 0) 19)) (shr .u32 (ws.getD (i - 2) 0) 10))
def sched (l : List UInt8) : Nat → List Int
  | 0 => []
  | i + 1 => sched l i ++ [nxt l (sched l i) i]
theorem sched_len (l : List UInt8) : ∀ i, (sched l i).length = i
  | 0 => rfl
  | i + 1 => by simp [sched, sched_len l i]

theorem be_take (l : List UInt8) (i : Nat) (h : i < 16) : be (l.take 64) i = be l i := by
  unfold be
  have e : ∀ j, j < 64 → (l.take 64).getD j 0 = l.getD j 0 := by intro j hj; simp [List.getD_eq_getElem?_getD, hj]
  rw [e _ (by omega), e _ (by omega), e _ (by omega), e _ (by omega)]
theorem be_append (l p : List UInt8) (i : Nat) (h : i < 16) (hl : 64 ≤ l.length) : be (l ++ p) i = be l i := by
  unfold be
  have e : ∀ j, j < 64 → (l ++ p).getD j 0 = l.getD j 0 := by
    intro j hj
    simp only [List.getD_eq_getElem?_getD]
    rw [List.getElem?_append_left (by omega)]
  rw [e _ (by omega), e _ (by omega), e _ (by omega), e _ (by omega)]
theorem sched_congr {l l' : List UInt8} (h : ∀ i, i < 16 → be l i = be l' i) : ∀ n, sched l n = sched l' n
  | 0 => rfl
  | n + 1 => by
    have e : nxt l (sched l' n) n = nxt l' (sched l' n) n := by
      unfold nxt
      by_cases hn : n < 16
      · rw [if_pos hn, if_pos hn, h n hn]
      · rw [if_neg hn, if_neg hn]
    simp only [sched, sched_congr h n, e]

/-- The words so far, and noughts. -/
def arr (l : List UInt8) (i : Nat) : List Int := sched l i ++ List.replicate (64 - i) 0
theorem arr_len (l : List UInt8) (i : Nat) (h : i ≤ 64) : (arr l i).length = 64 := by simp [arr, sched_len]; omega
theorem arr_get (l : List UInt8) (i j : Nat) (h : j < i) : (arr l i)[j]? = some ((sched l i).getD j 0) := by
  unfold arr
  rw [List.getElem?_append_left (by rw [sched_len]; exact h)]
  exact getD_some _ _ _ (by rw [sched_len]; exact h)
theorem set_at (ws : List Int) (k : Nat) (x y : Int) : (ws ++ x :: List.replicate k 0).set ws.length y = (ws ++ [y]) ++ List.replicate k 0 := by
  rw [List.set_append_right _ _ (Nat.le_refl _)]
  simp
theorem arr_head (l : List UInt8) (i : Nat) (h : i < 64) : arr l i = sched l i ++ (0 : Int) :: List.replicate (63 - i) 0 := by
  unfold arr
  have : 64 - i = (63 - i) + 1 := by omega
  rw [this, List.replicate_succ]
theorem aset_mid (l : List UInt8) (i : Nat) (h : i < 64) (x y : Int) : aset (sched l i ++ x :: List.replicate (63 - i) 0) i y = some (sched l i ++ y :: List.replicate (63 - i) 0) := by
  unfold aset
  rw [if_pos (by simp [sched_len])]
  have := set_at (sched l i) (63 - i) x y
  rw [sched_len] at this
  rw [this, List.append_assoc]
  rfl
theorem anth_mid (l : List UInt8) (i : Nat) (x : Int) : anth (sched l i ++ x :: List.replicate (63 - i) 0) i = some x := by
  unfold anth
  rw [List.getElem?_append_right (by rw [sched_len]; exact Nat.le_refl _), sched_len]
  simp
theorem arr_next (l : List UInt8) (i : Nat) (h : i < 64) : sched l i ++ nxt l (sched l i) i :: List.replicate (63 - i) 0 = arr l (i + 1) := by
  unfold arr
  have : 64 - (i + 1) = 63 - i := by omega
  rw [this]
  simp [sched]
theorem aset_arr (l : List UInt8) (i : Nat) (h : i < 64) : aset (arr l i) i (nxt l (sched l i) i) = some (arr l (i + 1)) := by
  rw [arr_head l i h, aset_mid l i h, arr_next l i h]

theorem idx_b (l : List UInt8) (k : Nat) (n : Int) (hn : n = (k : Int)) (h : k < l.length) : idx l n = some (l.getD k 0) := by
  subst hn
  unfold idx
  rw [if_pos (by omega)]
  simp [h]

theorem sch_l0 (F i : Nat) (hi : i < 16) (b : List UInt8) (hb : b.length = 64) (z : List Int) :
    M_sha_schedule_l0 F (b, (), (), (i : Int), z, arr b i, ()) = some (.inl (b, (), (), ((i + 1 : Nat) : Int), z, arr b (i + 1), ())) := by
  have h1 : (i : Int) < 16 := by omega
  have h0 : (0 : Int) ≤ (i : Int) := by omega
  have h64 : (i : Int) < 64 := by omega
  have e0 : IntKind.i64.wrap (4 * (i : Int)) = 4 * (i : Int) := by rw [wrap64] <;> omega
  have e1 : IntKind.i64.wrap (4 * (i : Int) + 1) = 4 * (i : Int) + 1 := by rw [wrap64] <;> omega
  have e2 : IntKind.i64.wrap (4 * (i : Int) + 2) = 4 * (i : Int) + 2 := by rw [wrap64] <;> omega
  have e3 : IntKind.i64.wrap (4 * (i : Int) + 3) = 4 * (i : Int) + 3 := by rw [wrap64] <;> omega
  have b0 := idx_b b (4 * i) (4 * (i : Int)) (by omega) (by omega)
  have b1 := idx_b b (4 * i + 1) (4 * (i : Int) + 1) (by omega) (by omega)
  have b2 := idx_b b (4 * i + 2) (4 * (i : Int) + 2) (by omega) (by omega)
  have b3 := idx_b b (4 * i + 3) (4 * (i : Int) + 3) (by omega) (by omega)
  have hn := next_nat i (by omega)
  have hw : ((be b i : Nat) : Int) = nxt b (sched b i) i := by unfold nxt; rw [if_pos hi]
  have ha := aset_arr b i (by omega)
  rw [← hw] at ha
  unfold be at ha
  unfold M_sha_schedule_l0
  simp only [h1, h0, h64, decide_true, if_true, e0, e1, e2, e3, b0, b1, b2, b3, Option.bind_some, Bool.and_self, word_or, Int.toNat_natCast, ha, hn]

theorem sch_l1 (F i : Nat) (h16 : 16 ≤ i) (hi : i < 64) (b : List UInt8) (z : List Int) :
    M_sha_schedule_l1 F ((), (), (i : Int), z, arr b i, ()) = some (.inl ((), (), ((i + 1 : Nat) : Int), z, arr b (i + 1), ())) := by
  have h1 : (i : Int) < 64 := by omega
  have h0 : (0 : Int) ≤ (i : Int) := by omega
  have w : ∀ k : Nat, k ≤ 16 → IntKind.i64.wrap ((i : Int) - (k : Int)) = ((i - k : Nat) : Int) := by intro k hk; rw [wrap64] <;> omega
  have w15 : IntKind.i64.wrap ((i : Int) - 15) = ((i - 15 : Nat) : Int) := w 15 (by omega)
  have w2 : IntKind.i64.wrap ((i : Int) - 2) = ((i - 2 : Nat) : Int) := w 2 (by omega)
  have w16 : IntKind.i64.wrap ((i : Int) - 16) = ((i - 16 : Nat) : Int) := w 16 (by omega)
  have w7 : IntKind.i64.wrap ((i : Int) - 7) = ((i - 7 : Nat) : Int) := w 7 (by omega)
  have c : ∀ k : Nat, k < 64 → (decide ((0 : Int) ≤ (k : Int)) && decide ((k : Int) < 64)) = true := by intro k hk; simp; omega
  have g15 := arr_get b i (i - 15) (by omega)
  have g2 := arr_get b i (i - 2) (by omega)
  have g16 := arr_get b i (i - 16) (by omega)
  have g7 := arr_get b i (i - 7) (by omega)
  have hn := next_nat i (by omega)
  have ha := aset_arr b i (by omega)
  unfold nxt at ha
  rw [if_neg (by omega)] at ha
  unfold M_sha_schedule_l1
  simp only [h1, decide_true, if_true, w15, w2, w16, w7, c (i - 15) (by omega), c (i - 2) (by omega), c (i - 16) (by omega), c (i - 7) (by omega), h0, Bool.and_self, anth, Int.toNat_natCast, g15, g2, g16, g7, Option.bind_some, rs7, rs17, rs18, rs19, ha, hn]

theorem sch_first (b : List UInt8) (hb : b.length = 64) (z : List Int) (i : Nat) (hi : i ≤ 16) : TendsL M_sha_schedule_l0 (b, (), (), (i : Int), z, arr b i, ()) ((), (), z, arr b 16, ()) := by
  obtain ⟨m, hm⟩ : ∃ m, 16 - i = m := ⟨_, rfl⟩
  induction m generalizing i with
  | zero =>
    have : i = 16 := by omega
    subst this
    refine TendsL.fin (.of fun F => ?_)
    unfold M_sha_schedule_l0
    rw [if_neg (by simp)]
  | succ m ih => exact TendsL.step (.of fun F => sch_l0 F i (by omega) b hb z) (ih (i + 1) (by omega) (by omega))
theorem sch_rest (b : List UInt8) (z : List Int) (i : Nat) (h16 : 16 ≤ i) (hi : i ≤ 64) : TendsL M_sha_schedule_l1 ((), (), (i : Int), z, arr b i, ()) ((), (), z, arr b 64, ()) := by
  obtain ⟨m, hm⟩ : ∃ m, 64 - i = m := ⟨_, rfl⟩
  induction m generalizing i with
  | zero =>
    have : i = 64 := by omega
    subst this
    refine TendsL.fin (.of fun F => ?_)
    unfold M_sha_schedule_l1
    rw [if_neg (by simp)]
  | succ m ih => exact TendsL.step (.of fun F => sch_l1 F i h16 (by omega) b z) (ih (i + 1) (by omega) (by omega) (by omega))

theorem zeros64 (b : List UInt8) : ([0, 0, 0, 0, 0, 0, 0, 0, 0, 0, 0, 0, 0, 0, 0, 0, 0, 0, 0, 0, 0, 0, 0, 0, 0, 0, 0, 0, 0, 0, 0, 0, 0, 0, 0, 0, 0, 0, 0, 0, 0, 0, 0, 0, 0, 0, 0, 0, 0, 0, 0, 0, 0, 0, 0, 0, 0, 0, 0, 0, 0, 0, 0, 0] : List Int) = arr b 0 := rfl
theorem arr_all (b : List UInt8) : arr b 64 = sched b 64 := by simp [arr]

theorem schedule_tends (b : List UInt8) (hb : b.length = 64) : Tends (fun F => M_sha_schedule F b) (sched b 64) := by
  unfold M_sha_schedule
  rw [zeros64 b]
  refine Tends.bind (sch_first b hb _ 0 (by omega)).run ?_
  refine Tends.bind (k := fun _ v18 => some v18.2.2.2.1) (sch_rest b _ 16 (by omega) (by omega)).run ?_
  rw [← arr_all]
  exact .ret _

def K64 : List Int := [1116352408, 1899447441, 3049323471, 3921009573, 961987163, 1508970993, 2453635748, 2870763221, 3624381080, 310598401, 607225278, 1426881987, 1925078388,
      2162078206, 2614888103, 3248222580, 3835390401, 4022224774, 264347078, 604807628, 770255983, 1249150122, 1555081692, 1996064986, 2554220882, 2821834349,
      2952996808, 3210313671, 3336571891, 3584528711, 113926993, 338241895, 666307205, 773529912, 1294757372, 1396182291, 1695183700, 1986661051, 2177026350,
      2456956037, 2730485921, 2820302411, 3259730800, 3345764771, 3516065817, 3600352804, 4094571909, 275423344, 430227734, 506948616, 659060556, 883997877,
      958139571, 1322822218, 1537002063, 1747873779, 1955562222, 2024104815, 2227730452, 2361852424, 2428436474, 2756734187, 3204031479, 3329325298]
/-- A block more. -/
def comp (s : S8) (l : List UInt8) : S8 := add8 s (rounds K64 (sched l 64) s 64)

theorem add_l1 (F : Nat) (s x : S8) (z : List Int) : loopM (M_sha_step_l1 F) 9 ((), (), (), 0, s.l, z, x.l, ()) = some ((), (), (add8 s x).l, z, ()) := by
  obtain ⟨a, b, c, d, e, f, g, h⟩ := s
  obtain ⟨a', b', c', d', e', f', g', h'⟩ := x
  rfl

theorem step_tends (s : S8) (b : List UInt8) (hb : b.length = 64) : Tends (fun F => M_sha_step F (s.l, b)) (comp s b).l := by
  unfold M_sha_step
  refine Tends.bind (Tends.of (r := K64) fun F => rfl) ?_
  refine Tends.bind (schedule_tends b hb) ?_
  refine Tends.bind (step_rounds s.l [0, 0, 0, 0, 0, 0, 0, 0] K64 (sched b 64) rfl (sched_len b 64) s 0 (by omega)).run ?_
  have key : Tends (fun F => loopM (M_sha_step_l1 F) F ((), (), (), 0, s.l, [0, 0, 0, 0, 0, 0, 0, 0], (rounds K64 (sched b 64) s 64).l, ())) ((), (), (comp s b).l, [0, 0, 0, 0, 0, 0, 0, 0], ()) :=
    ⟨9, fun F hF => (Le.loop (fun x => Le.refl _) hF _).le _ (add_l1 F s (rounds K64 (sched b 64) s 64) [0, 0, 0, 0, 0, 0, 0, 0])⟩
  exact Tends.bind key (.ret _)

end Go.Vm
