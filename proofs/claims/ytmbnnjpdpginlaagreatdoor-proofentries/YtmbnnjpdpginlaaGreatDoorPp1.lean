/- Proofs of membership, plainly: halves, leaves, knots, tops. No condition. -/
import Derived.Test.YtmbnnjpdpginlaaGreatDoorFproof
import Derived.Test.YtmbnnjpdpginlaaGreatDoorFref41
import Derived.Test.YtmbnnjpdpginlaaGreatDoorPsha4
import Derived.Test.YtmbnnjpdpginlaaGreatDoorPnum
namespace Go.Vm
set_option linter.unusedVariables false
open Go

/-! ### runs that call themselves -/
def T2 {α : Type} (m : Nat → Nat → Option α) (r : α) : Prop := ∃ N, ∀ F d, N ≤ F → N ≤ d → m F d = some r
theorem T2.of {α : Type} {m : Nat → Option α} {r : α} (h : Tends m r) : T2 (fun F _ => m F) r := by
  obtain ⟨N, h⟩ := h; exact ⟨N, fun F d hF _ => h F hF⟩
theorem T2.ret {α : Type} (r : α) : T2 (fun _ _ => some r) r := ⟨0, fun _ _ _ _ => rfl⟩
theorem T2.eqs {α : Type} {m : Nat → Nat → Option α} {r : α} (h : ∀ F d, m F d = some r) : T2 m r := ⟨0, fun F d _ _ => h F d⟩
theorem T2.bind {α β : Type} {m : Nat → Nat → Option α} {k : Nat → Nat → α → Option β} {r : α} {s : β} (h : T2 m r) (h' : T2 (fun F d => k F d r) s) : T2 (fun F d => (m F d).bind (k F d)) s := by
  obtain ⟨N, h⟩ := h
  obtain ⟨N', h'⟩ := h'
  refine ⟨max N N', fun F d hF hd => ?_⟩
  show (m F d).bind (k F d) = _
  rw [h F d (by omega) (by omega), Option.bind_some]
  exact h' F d (by omega) (by omega)
theorem T2.pos {α : Type} {c : Prop} [Decidable c] {m m' : Nat → Nat → Option α} {r : α} (hc : c) (h : T2 m r) : T2 (fun F d => if c then m F d else m' F d) r := by
  obtain ⟨N, h⟩ := h; exact ⟨N, fun F d hF hd => (if_pos hc).trans (h F d hF hd)⟩
theorem T2.neg {α : Type} {c : Prop} [Decidable c] {m m' : Nat → Nat → Option α} {r : α} (hc : ¬ c) (h : T2 m' r) : T2 (fun F d => if c then m F d else m' F d) r := by
  obtain ⟨N, h⟩ := h; exact ⟨N, fun F d hF hd => (if_neg hc).trans (h F d hF hd)⟩
theorem T2.shift {α : Type} {m m' : Nat → Nat → Option α} {r : α} (h : T2 m' r) (he : ∀ F d, m F (d + 1) = m' F d) : T2 m r := by
  obtain ⟨N, h⟩ := h
  refine ⟨N + 1, fun F d hF hd => ?_⟩
  obtain ⟨d, rfl⟩ : ∃ k, d = k + 1 := ⟨d - 1, by omega⟩
  rw [he]
  exact h F d (by omega) (by omega)
theorem T2.run {α : Type} {m : Nat → Nat → Option α} {r : α} (h : T2 m r) : Tends (fun F => m F F) r := by
  obtain ⟨N, h⟩ := h; exact ⟨N, fun F hF => h F F hF hF⟩

/-! ### the greatest power of two below -/
def hf (n : Nat) : Nat := 2 ^ Nat.log2 (n - 1)
theorem hf_pos (n : Nat) : 1 ≤ hf n := Nat.one_le_two_pow
theorem hf_lt {n : Nat} (h : 2 ≤ n) : hf n < n := by
  have := Nat.log2_self_le (n := n - 1) (by omega)
  unfold hf
  omega
theorem hf_ge {n : Nat} (h : 2 ≤ n) : n ≤ 2 * hf n := by
  have := Nat.lt_log2_self (n := n - 1)
  unfold hf
  rw [Nat.pow_succ] at this
  omega

def tab8 : List UInt8 := [0, 1, 2, 2, 3, 3, 3, 3, 4, 4, 4, 4, 4, 4, 4, 4, 5, 5, 5, 5, 5, 5, 5, 5, 5, 5, 5, 5, 5, 5, 5, 5, 6, 6, 6, 6, 6, 6, 6, 6, 6, 6, 6, 6, 6, 6, 6, 6, 6, 6, 6, 6, 6, 6, 6, 6, 6, 6, 6, 6, 6, 6, 6, 6, 7, 7, 7, 7, 7, 7, 7, 7, 7, 7, 7, 7, 7, 7, 7, 7, 7, 7, 7, 7, 7, 7, 7, 7, 7, 7, 7, 7, 7, 7, 7, 7, 7, 7, 7, 7, 7, 7, 7, 7, 7, 7, 7, 7, 7, 7, 7, 7, 7, 7, 7, 7, 7, 7, 7, 7, 7, 7, 7, 7, 7, 7, 7, 7, 8, 8, 8, 8, 8, 8, 8, 8, 8, 8, 8, 8, 8, 8, 8, 8, 8, 8, 8, 8, 8, 8, 8, 8, 8, 8, 8, 8, 8, 8, 8, 8, 8, 8, 8, 8, 8, 8, 8, 8, 8, 8, 8, 8, 8, 8, 8, 8, 8, 8, 8, 8, 8, 8, 8, 8, 8, 8, 8, 8, 8, 8, 8, 8, 8, 8, 8, 8, 8, 8, 8, 8, 8, 8, 8, 8, 8, 8, 8, 8, 8, 8, 8, 8, 8, 8, 8, 8, 8, 8, 8, 8, 8, 8, 8, 8, 8, 8, 8, 8, 8, 8, 8, 8, 8, 8, 8, 8, 8, 8, 8, 8, 8, 8, 8, 8, 8, 8, 8, 8, 8, 8, 8, 8, 8, 8, 8, 8]
def len2 (n : Nat) : Nat := if n = 0 then 0 else Nat.log2 n + 1
theorem tab8_at : ∀ i : Fin 256, tab8[i.val]? = some (UInt8.ofNat (len2 i.val)) := by decide +kernel
theorem len2_small (n : Nat) (h : n < 256) : len2 n ≤ 8 := by
  unfold len2
  split
  · omega
  · rename_i h0
    have : Nat.log2 n < 8 := (Nat.log2_lt h0).2 (by omega)
    omega
theorem log2_shift : ∀ (k n : Nat), 2 ^ k ≤ n → Nat.log2 n = Nat.log2 (n / 2 ^ k) + k
  | 0, n, h => by simp
  | k + 1, n, h => by
    have hp : 0 < 2 ^ k := Nat.two_pow_pos k
    have h2 : 2 ≤ n := by rw [Nat.pow_succ] at h; omega
    have e : Nat.log2 n = Nat.log2 (n / 2) + 1 := by rw [Nat.log2_def, if_pos h2]
    have ih := log2_shift k (n / 2) (by rw [Nat.pow_succ] at h; omega)
    have e2 : 2 * 2 ^ k = 2 ^ (k + 1) := by rw [Nat.pow_succ]; omega
    rw [e, ih, Nat.div_div_eq_div_mul, e2]
    omega
theorem len2_shift (k n : Nat) (h : 2 ^ k ≤ n) : len2 n = len2 (n / 2 ^ k) + k := by
  have hp : 0 < 2 ^ k := Nat.two_pow_pos k
  have h1 : n / 2 ^ k ≠ 0 := by have := Nat.div_pos h hp; omega
  unfold len2
  rw [if_neg (by omega), if_neg h1, log2_shift k n h]
  omega
theorem shrU64 (n : Nat) (k m : Nat) (j : Int) (hm : j = (k : Int)) (hk : k ≤ 64) (h2 : 2 ^ k = m) : shr .u64 (n : Int) j = ((n / m : Nat) : Int) := by
  subst hm
  subst h2
  unfold shr
  have e : min (k : Int).toNat IntKind.u64.bits = k := by
    show min (k : Int).toNat 64 = k
    omega
  rw [e, Int.fdiv_eq_ediv_of_nonneg _ (Int.le_of_lt (Int.pow_pos (by decide)))]
  have : ((2 : Int) ^ k) = ((2 ^ k : Nat) : Int) := by push_cast; rfl
  rw [this]
  exact (Int.natCast_ediv n (2 ^ k)).symm

theorem len_tail (x : Nat) (hx : x < 256) (b : Nat) (hb : b ≤ 24) : ((idx tab8 (IntKind.u8.wrap (x : Int))).bind fun v3 => some (IntKind.i64.wrap ((b : Int) + IntKind.i64.wrap ((v3.toNat : Int))))) = some ((len2 x + b : Nat) : Int) := by
  have e : IntKind.u8.wrap (x : Int) = (x : Int) := by rw [wrapB _ (by omega)]; omega
  have ht := tab8_at ⟨x, hx⟩
  simp only at ht
  have hi : idx tab8 (x : Int) = some (UInt8.ofNat (len2 x)) := by
    unfold idx
    rw [if_pos (by omega)]
    simpa using ht
  have hl := len2_small x hx
  have hn : (UInt8.ofNat (len2 x)).toNat = len2 x := by simp; omega
  rw [e, hi, Option.bind_some, hn]
  have e1 : IntKind.i64.wrap ((len2 x : Nat) : Int) = ((len2 x : Nat) : Int) := by rw [wrap64] <;> omega
  rw [e1, wrap64 _ (by omega) (by omega)]
  congr 1
  omega

theorem len64_unf (F : Nat) (x : Int) : M_math_bits_Len64 F x = (if decide (4294967296 ≤ x) = true then some (shr IntKind.u64 x 32, 32, ()) else some (x, 0, ())).bind fun v0 : Int × Int × Unit =>
    (if decide (65536 ≤ v0.1) = true then some (shr IntKind.u64 v0.1 16, IntKind.i64.wrap (v0.2.1 + 16), ()) else some (v0.1, v0.2.1, ())).bind fun v1 : Int × Int × Unit =>
      (if decide (256 ≤ v1.1) = true then some (shr IntKind.u64 v1.1 8, IntKind.i64.wrap (v1.2.1 + 8), ()) else some (v1.1, v1.2.1, ())).bind fun v2 : Int × Int × Unit =>
        (idx tab8 (IntKind.u8.wrap v2.1)).bind fun v3 => some (IntKind.i64.wrap (v2.2.1 + IntKind.i64.wrap (v3.toNat : Int))) := rfl

theorem len_eq (F : Nat) (x : Nat) (hx : x < 4294967296) : M_math_bits_Len F (x : Int) = some ((len2 x : Nat) : Int) := by
  have body : ∀ (y b : Nat), y < 65536 → b ≤ 16 → ((if decide ((256 : Int) ≤ (y : Int)) = true then some (shr IntKind.u64 (y : Int) 8, IntKind.i64.wrap ((b : Int) + 8), ()) else some ((y : Int), (b : Int), ())).bind fun v2 : Int × Int × Unit =>
      (idx tab8 (IntKind.u8.wrap v2.1)).bind fun v3 => some (IntKind.i64.wrap (v2.2.1 + IntKind.i64.wrap (v3.toNat : Int)))) = some ((len2 y + b : Nat) : Int) := by
    intro y b hy hb
    by_cases h : 256 ≤ y
    · have e1 := shrU64 y 8 256 8 rfl (by omega) (by decide)
      have e2 : IntKind.i64.wrap ((b : Int) + 8) = ((b + 8 : Nat) : Int) := by rw [wrap64] <;> omega
      rw [if_pos (by simp; omega), Option.bind_some]
      simp only [e1, e2]
      rw [len_tail (y / 256) (by omega) (b + 8) (by omega)]
      have := len2_shift 8 y (by omega)
      have e3 : y / 2 ^ 8 = y / 256 := rfl
      rw [e3] at this
      rw [this]
      congr 1
      omega
    · rw [if_neg (by simp; omega), Option.bind_some]
      exact len_tail y (by omega) b (by omega)
  unfold M_math_bits_Len
  rw [len64_unf]
  have hid : ∀ m : Option Int, (m.bind fun v0 => some v0) = m := fun m => by cases m <;> rfl
  rw [hid, if_neg (by simp; omega), Option.bind_some]
  by_cases h : 65536 ≤ x
  · have e1 := shrU64 x 16 65536 16 rfl (by omega) (by decide)
    have e2 : IntKind.i64.wrap (0 + 16) = ((16 : Nat) : Int) := by rw [wrap64] <;> omega
    rw [if_pos (by simp; omega), Option.bind_some]
    have hb := body (x / 65536) 16 (by omega) (by omega)
    have := len2_shift 16 x (by omega)
    have e3 : x / 2 ^ 16 = x / 65536 := rfl
    rw [e3] at this
    rw [← this, ← e1, ← e2] at hb
    exact hb
  · rw [if_neg (by simp; omega), Option.bind_some]
    exact body x 0 (by omega) (by omega)

theorem half_eq (F n : Nat) (h2 : 2 ≤ n) (h : n ≤ 4294967296) : M_proof_half F (n : Int) = some ((hf n : Nat) : Int) := by
  have e1 : IntKind.i64.wrap ((n : Int) - 1) = ((n - 1 : Nat) : Int) := by rw [wrap64] <;> omega
  have e2 : IntKind.u64.wrap ((n - 1 : Nat) : Int) = ((n - 1 : Nat) : Int) := by rw [wrapU64] <;> omega
  have hl : len2 (n - 1) = Nat.log2 (n - 1) + 1 := by unfold len2; rw [if_neg (by omega)]
  have hlt : Nat.log2 (n - 1) < 32 := (Nat.log2_lt (by omega)).2 (by omega)
  unfold M_proof_half
  rw [e1, e2, len_eq F (n - 1) (by omega), Option.bind_some, hl]
  have e3 : IntKind.i64.wrap (((Nat.log2 (n - 1) + 1 : Nat) : Int) - 1) = ((Nat.log2 (n - 1) : Nat) : Int) := by rw [wrap64] <;> omega
  rw [e3, if_pos (by simp)]
  unfold shl hf
  have e4 : min ((Nat.log2 (n - 1) : Nat) : Int).toNat IntKind.i64.bits = Nat.log2 (n - 1) := by
    show min ((Nat.log2 (n - 1) : Nat) : Int).toNat 64 = _
    omega
  rw [e4]
  have hp : 2 ^ Nat.log2 (n - 1) ≤ 2 ^ 31 := Nat.pow_le_pow_right (by omega) (by omega)
  have e5 : (1 : Int) * 2 ^ Nat.log2 (n - 1) = ((2 ^ Nat.log2 (n - 1) : Nat) : Int) := by push_cast; omega
  rw [e5]
  generalize 2 ^ Nat.log2 (n - 1) = q at hp
  rw [wrap64 _ (by omega) (by omega)]

theorem rhalf_loop (n : Nat) (h2 : 2 ≤ n) (h : n ≤ 4294967296) : ∀ (m j : Nat), j + m = Nat.log2 (n - 1) → TendsL M_conciergeref41_Half_l0 ((n : Int), ((2 ^ j : Nat) : Int), ()) (((hf n : Nat) : Int), ())
  | m, j, hj => by
    have hlt : Nat.log2 (n - 1) < 32 := (Nat.log2_lt (by omega)).2 (by omega)
    have hp : 2 ^ j ≤ 2 ^ 31 := Nat.pow_le_pow_right (by omega) (by omega)
    have e : IntKind.i64.wrap (((2 ^ j : Nat) : Int) * 2) = ((2 ^ (j + 1) : Nat) : Int) := by
      rw [Nat.pow_succ]
      generalize 2 ^ j = q at hp
      rw [wrap64 _ (by omega) (by omega)]
      omega
    match m with
    | 0 =>
      have : j = Nat.log2 (n - 1) := by omega
      subst this
      refine TendsL.fin (.of fun F => ?_)
      have hge := hf_ge h2
      unfold M_conciergeref41_Half_l0
      simp only [e]
      rw [if_neg]
      · rfl
      · have e' : 2 ^ (Nat.log2 (n - 1) + 1) = 2 * hf n := by unfold hf; rw [Nat.pow_succ]; omega
        rw [e']
        simp
        omega
    | m + 1 =>
      refine TendsL.step (.of fun F => ?_) (rhalf_loop n h2 h m (j + 1) (by omega))
      have hle : 2 ^ (j + 1) ≤ hf n := Nat.pow_le_pow_right (by omega) (by omega)
      have := hf_lt h2
      unfold M_conciergeref41_Half_l0
      simp only [e]
      generalize 2 ^ (j + 1) = q at hle
      rw [if_pos (show decide ((q : Int) < (n : Int)) = true by rw [decide_eq_true_eq]; omega)]

theorem rhalf_tends (n : Nat) (h2 : 2 ≤ n) (h : n ≤ 4294967296) : Tends (fun F => M_conciergeref41_Half F (n : Int)) ((hf n : Nat) : Int) := by
  unfold M_conciergeref41_Half
  exact Tends.bind (rhalf_loop n h2 h (Nat.log2 (n - 1)) 0 (by omega)).run (.ret _)

/-! ### digests of leaves, knots, seals -/
def leafD (s : List UInt8) : List UInt8 := dig ([0] ++ s)
def knotD (a b : List UInt8) : List UInt8 := dig ([1] ++ a ++ b)
def sealD (n : Nat) (t : List UInt8) : List UInt8 := dig ([2] ++ numL n ++ t)

theorem leaf_tends (s : List UInt8) (h : s.length ≤ 100000) : Tends (fun F => M_proof_leaf F s) (leafD s) := by
  unfold M_proof_leaf
  exact Tends.pos (by simp; omega) (Tends.bind (sha_tends ([0] ++ s) (by simp; omega)) (.ret _))
theorem knot_tends (a b : List UInt8) (h : a.length ≤ 100000) (h' : b.length ≤ 100000) : Tends (fun F => M_proof_knot F (a, b)) (knotD a b) := by
  unfold M_proof_knot
  exact Tends.pos (by simp; omega) (Tends.pos (by simp; omega) (Tends.bind (sha_tends ([1] ++ a ++ b) (by simp; omega)) (.ret _)))
theorem rleaf_tends (s : List UInt8) (h : s.length ≤ 100000) : Tends (fun F => M_conciergeref41_Leaf F s) (leafD s) := by
  unfold M_conciergeref41_Leaf
  exact Tends.pos (by simp; omega) (Tends.bind (ref3_tends ([0] ++ s) (by simp; omega)) (.ret _))
theorem rknot_tends (a b : List UInt8) (h : a.length ≤ 100000) (h' : b.length ≤ 100000) : Tends (fun F => M_conciergeref41_Knot F (a, b)) (knotD a b) := by
  unfold M_conciergeref41_Knot
  exact Tends.pos (by simp; omega) (Tends.pos (by simp; omega) (Tends.bind (ref3_tends ([1] ++ a ++ b) (by simp; omega)) (.ret _)))

theorem seal_tends (n : Nat) (t : List UInt8) (hn : n ≤ 4611686018427387904) (h : t.length ≤ 100000) : Tends (fun F => M_proof_seal F ((n : Int), t)) (sealD n t) := by
  have hl := numL_len n hn
  unfold M_proof_seal
  refine Tends.bind (r := ((), ([2], false, ()))) (.of fun F => rfl) ?_
  refine Tends.bind (m := fun F => M_pack_Packer_Num F (([2], false, ()), (n : Int))) (pnum_tends [2] (by simp) n hn) ?_
  refine Tends.bind (m := fun F => M_pack_Packer_Raw F (([2] ++ numL n, false, ()), t)) (r := ((), ([2] ++ numL n ++ t, false, ()))) (.of fun F => ?_) ?_
  · unfold M_pack_Packer_Raw
    simp only
    rw [if_pos (by simp; omega)]
    rfl
  refine Tends.bind (m := fun F => M_pack_Packer_String F ([2] ++ numL n ++ t, false, ())) (r := ([2] ++ numL n ++ t, [2] ++ numL n ++ t, false, ())) (.of fun F => rfl) ?_
  exact Tends.bind (sha_tends ([2] ++ numL n ++ t) (by simp; omega)) (.ret _)
theorem rseal_tends (n : Nat) (t : List UInt8) (hn : n ≤ 4611686018427387904) (h : t.length ≤ 100000) : Tends (fun F => M_conciergeref41_Seal F ((n : Int), t)) (sealD n t) := by
  have hl := numL_len n hn
  unfold M_conciergeref41_Seal
  refine Tends.bind (rnum_tends n hn) ?_
  exact Tends.pos (by simp; omega) (Tends.pos (by simp; omega) (Tends.bind (ref3_tends ([2] ++ numL n ++ t) (by simp; omega)) (.ret _)))

/-! ### tops -/
def topD (l : List (List UInt8)) : List UInt8 :=
  if h : l.length ≤ 1 then (match l with
    | [] => dig []
    | x :: _ => leafD x)
  else knotD (topD (l.take (hf l.length))) (topD (l.drop (hf l.length)))
termination_by l.length
decreasing_by
  · have := hf_lt (n := l.length) (by omega); simp; omega
  · have := hf_pos l.length; simp; omega
theorem topD_len (l : List (List UInt8)) : (topD l).length = 32 := by
  rw [topD]
  split
  · split <;> exact dig_len _
  · exact dig_len _
theorem topD_nil : topD [] = dig [] := by rw [topD]; simp
theorem topD_one (x : List UInt8) : topD [x] = leafD x := by rw [topD]; simp
theorem topD_more {l : List (List UInt8)} (h : 2 ≤ l.length) : topD l = knotD (topD (l.take (hf l.length))) (topD (l.drop (hf l.length))) := by
  rw [topD, dif_neg (by omega)]

/-- Small texts. -/
def Sm (l : List (List UInt8)) : Prop := l.length ≤ 10000 ∧ ∀ x ∈ l, x.length ≤ 10000
theorem Sm.take {l : List (List UInt8)} (h : Sm l) (n : Nat) : Sm (l.take n) := ⟨by have := h.1; simp; omega, fun x hx => h.2 x (List.mem_of_mem_take hx)⟩
theorem Sm.drop {l : List (List UInt8)} (h : Sm l) (n : Nat) : Sm (l.drop n) := ⟨by have := h.1; simp; omega, fun x hx => h.2 x (List.mem_of_mem_drop hx)⟩

theorem sub0 {α : Type} (s : List α) (b : Nat) (h' : b ≤ s.length) : sub s 0 (b : Int) = some (s.take b) := by
  have := subN s 0 b (by omega) h'
  simpa using this

theorem top_t2 : ∀ (m : Nat) (l : List (List UInt8)), l.length ≤ m → Sm l → T2 (fun F d => Mr_proof_top F d l) (topD l)
  | m, l, hm, hs => by
    refine T2.shift (m' := fun F d => Mb_proof_top F (Mr_proof_top F d) l) ?_ (fun F d => rfl)
    unfold Mb_proof_top
    have hs1 := hs.1
    by_cases h0 : l.length = 0
    · have : l = [] := List.eq_nil_of_length_eq_zero h0
      subst this
      rw [topD_nil]
      exact T2.pos (by simp) (T2.of (Tends.bind (sha_tends [] (by simp)) (.ret _)))
    refine T2.neg (by simpa using h0) ?_
    by_cases h1 : l.length = 1
    · obtain ⟨x, rfl⟩ := List.length_eq_one_iff.1 h1
      rw [topD_one]
      have hx := hs.2 x (by simp)
      refine T2.pos (by simp) ?_
      refine T2.bind (r := x) (T2.eqs fun F d => rfl) ?_
      exact T2.of (Tends.bind (leaf_tends x (by omega)) (.ret _))
    refine T2.neg (by simp; omega) ?_
    have h2 : 2 ≤ l.length := by omega
    have hlt := hf_lt h2
    have hpos := hf_pos l.length
    match m with
    | 0 => omega
    | m + 1 =>
      have ihA := top_t2 m (l.take (hf l.length)) (by simp; omega) (hs.take _)
      have ihB := top_t2 m (l.drop (hf l.length)) (by simp; omega) (hs.drop _)
      refine T2.bind (r := ((hf l.length : Nat) : Int)) (T2.eqs fun F d => half_eq F l.length h2 (by omega)) ?_
      refine T2.bind (r := (topD l, ())) ?_ (T2.ret _)
      refine T2.bind (r := l.take (hf l.length)) (T2.eqs fun F d => sub0 l (hf l.length) (by omega)) ?_
      refine T2.bind ihA ?_
      refine T2.bind (r := l.drop (hf l.length)) (T2.eqs fun F d => subE l (hf l.length) (by omega)) ?_
      refine T2.bind ihB ?_
      rw [topD_more h2]
      exact T2.of (Tends.bind (knot_tends _ _ (by rw [topD_len]; omega) (by rw [topD_len]; omega)) (.ret _))
theorem top_tends (l : List (List UInt8)) (hs : Sm l) : Tends (fun F => M_proof_top F l) (topD l) := (top_t2 l.length l (Nat.le_refl _) hs).run

theorem rtop_t2 : ∀ (m : Nat) (l : List (List UInt8)), l.length ≤ m → Sm l → T2 (fun F d => Mr_conciergeref41_Top F d l) (topD l)
  | m, l, hm, hs => by
    refine T2.shift (m' := fun F d => Mb_conciergeref41_Top F (Mr_conciergeref41_Top F d) l) ?_ (fun F d => rfl)
    unfold Mb_conciergeref41_Top
    have hs1 := hs.1
    by_cases h0 : l.length = 0
    · have : l = [] := List.eq_nil_of_length_eq_zero h0
      subst this
      rw [topD_nil]
      exact T2.pos (by simp) (T2.of (Tends.bind (ref3_tends [] (by simp)) (.ret _)))
    refine T2.neg (by simpa using h0) ?_
    by_cases h1 : l.length = 1
    · obtain ⟨x, rfl⟩ := List.length_eq_one_iff.1 h1
      rw [topD_one]
      have hx := hs.2 x (by simp)
      refine T2.pos (by simp) ?_
      refine T2.bind (r := x) (T2.eqs fun F d => rfl) ?_
      exact T2.of (Tends.bind (rleaf_tends x (by omega)) (.ret _))
    refine T2.neg (by simp; omega) ?_
    have h2 : 2 ≤ l.length := by omega
    have hlt := hf_lt h2
    have hpos := hf_pos l.length
    match m with
    | 0 => omega
    | m + 1 =>
      have ihA := rtop_t2 m (l.take (hf l.length)) (by simp; omega) (hs.take _)
      have ihB := rtop_t2 m (l.drop (hf l.length)) (by simp; omega) (hs.drop _)
      refine T2.bind (T2.of (rhalf_tends l.length h2 (by omega))) ?_
      refine T2.bind (r := (topD l, ())) ?_ (T2.ret _)
      refine T2.bind (r := l.take (hf l.length)) (T2.eqs fun F d => sub0 l (hf l.length) (by omega)) ?_
      refine T2.bind ihA ?_
      refine T2.bind (r := l.drop (hf l.length)) (T2.eqs fun F d => subE l (hf l.length) (by omega)) ?_
      refine T2.bind ihB ?_
      rw [topD_more h2]
      exact T2.of (Tends.bind (rknot_tends _ _ (by rw [topD_len]; omega) (by rw [topD_len]; omega)) (.ret _))
theorem rtop_tends (l : List (List UInt8)) (hs : Sm l) : Tends (fun F => M_conciergeref41_Top F l) (topD l) := (rtop_t2 l.length l (Nat.le_refl _) hs).run

def rootD (l : List (List UInt8)) : List UInt8 := sealD l.length (topD l)
theorem root_tends (l : List (List UInt8)) (hs : Sm l) : Tends (fun F => M_proof_Root F l) (rootD l) := by
  have := hs.1
  unfold M_proof_Root
  exact Tends.bind (top_tends l hs) (Tends.bind (seal_tends l.length (topD l) (by omega) (by rw [topD_len]; omega)) (.ret _))
theorem rroot_tends (l : List (List UInt8)) (hs : Sm l) : Tends (fun F => M_conciergeref41_Root F l) (rootD l) := by
  have := hs.1
  unfold M_conciergeref41_Root
  exact Tends.bind (rtop_tends l hs) (Tends.bind (rseal_tends l.length (topD l) (by omega) (by rw [topD_len]; omega)) (.ret _))

end Go.Vm
