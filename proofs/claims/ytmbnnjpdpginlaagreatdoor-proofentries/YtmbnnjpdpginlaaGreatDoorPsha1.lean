/- The digest, plainly: turns, rounds. No condition. -/
import Derived.Test.YtmbnnjpdpginlaaGreatDoorPbase
import Derived.Test.YtmbnnjpdpginlaaGreatDoorFsha
import Derived.Test.YtmbnnjpdpginlaaGreatDoorFref3
import Derived.Test.YtmbnnjpdpginlaaGreatDoorV4
namespace Go.Vm
set_option linter.unusedVariables false
open Go

theorem ior_comm' (k : IntKind) (a b : Int) : ior k a b = ior k b a := by unfold ior; rw [BitVec.or_comm]
def rot (x n : Int) : Int := ior .u32 (shr .u32 x n) (shl .u32 x (32 - n))

theorem wrapU64 (n : Int) (h : 0 ≤ n) (h' : n < 18446744073709551616) : IntKind.u64.wrap n = n := by
  simp only [IntKind.wrap, IntKind.signed, IntKind.bits]
  simp
  omega

theorem right_sha (F : Nat) (x n : Int) (e1 : iand .u64 (IntKind.u64.wrap (IntKind.i64.wrap (0 - n))) 31 = 32 - n) (h : 0 ≤ n) (h' : n ≤ 32) : M_sha_right F (x, n) = some (rot x n) := by
  unfold M_sha_right M_math_bits_RotateLeft32
  have e2 : IntKind.u64.wrap (32 - (32 - n)) = n := by rw [wrapU64] <;> omega
  simp only [e1, e2]
  rw [if_pos (by simp; omega), if_pos (by simpa using h)]
  simp only [Option.bind_some, rot]
  rw [ior_comm']

theorem right_ref (F : Nat) (x n : Int) (h : 0 ≤ n) (h' : n ≤ 32) : M_conciergeref03_right F (x, n) = some (rot x n) := by
  unfold M_conciergeref03_right
  have e2 : IntKind.i64.wrap (32 - n) = 32 - n := by rw [wrap64] <;> omega
  simp only [e2]
  rw [if_pos (by simpa using h), if_pos (by simp; omega)]
  rfl

theorem rs2 (F : Nat) (x : Int) : M_sha_right F (x, 2) = some (rot x 2) := right_sha F x 2 (by decide +kernel) (by decide) (by decide)
theorem rs6 (F : Nat) (x : Int) : M_sha_right F (x, 6) = some (rot x 6) := right_sha F x 6 (by decide +kernel) (by decide) (by decide)
theorem rs7 (F : Nat) (x : Int) : M_sha_right F (x, 7) = some (rot x 7) := right_sha F x 7 (by decide +kernel) (by decide) (by decide)
theorem rs11 (F : Nat) (x : Int) : M_sha_right F (x, 11) = some (rot x 11) := right_sha F x 11 (by decide +kernel) (by decide) (by decide)
theorem rs13 (F : Nat) (x : Int) : M_sha_right F (x, 13) = some (rot x 13) := right_sha F x 13 (by decide +kernel) (by decide) (by decide)
theorem rs17 (F : Nat) (x : Int) : M_sha_right F (x, 17) = some (rot x 17) := right_sha F x 17 (by decide +kernel) (by decide) (by decide)
theorem rs18 (F : Nat) (x : Int) : M_sha_right F (x, 18) = some (rot x 18) := right_sha F x 18 (by decide +kernel) (by decide) (by decide)
theorem rs19 (F : Nat) (x : Int) : M_sha_right F (x, 19) = some (rot x 19) := right_sha F x 19 (by decide +kernel) (by decide) (by decide)
theorem rs22 (F : Nat) (x : Int) : M_sha_right F (x, 22) = some (rot x 22) := right_sha F x 22 (by decide +kernel) (by decide) (by decide)
theorem rs25 (F : Nat) (x : Int) : M_sha_right F (x, 25) = some (rot x 25) := right_sha F x 25 (by decide +kernel) (by decide) (by decide)

/-- Eight words. -/
structure S8 where
  (a b c d e f g h : Int)
def S8.l (s : S8) : List Int := [s.a, s.b, s.c, s.d, s.e, s.f, s.g, s.h]
def t1 (s : S8) (k w : Int) : Int :=
  IntKind.u32.wrap (IntKind.u32.wrap (IntKind.u32.wrap (IntKind.u32.wrap (s.h + ixor .u32 (ixor .u32 (rot s.e 6) (rot s.e 11)) (rot s.e 25)) + ixor .u32 (iand .u32 s.e s.f) (iand .u32 (inot .u32 s.e) s.g)) + k) + w)
def t2 (s : S8) : Int :=
  IntKind.u32.wrap (ixor .u32 (ixor .u32 (rot s.a 2) (rot s.a 13)) (rot s.a 22) + ixor .u32 (ixor .u32 (iand .u32 s.a s.b) (iand .u32 s.a s.c)) (iand .u32 s.b s.c))
def rnd (s : S8) (k w : Int) : S8 := ⟨IntKind.u32.wrap (t1 s k w + t2 s), s.a, s.b, s.c, IntKind.u32.wrap (s.d + t1 s k w), s.e, s.f, s.g⟩
def rounds (ks ws : List Int) (s : S8) : Nat → S8
  | 0 => s
  | i + 1 => rnd (rounds ks ws s i) (ks.getD i 0) (ws.getD i 0)
def add8 (s x : S8) : S8 := ⟨IntKind.u32.wrap (s.a + x.a), IntKind.u32.wrap (s.b + x.b), IntKind.u32.wrap (s.c + x.c), IntKind.u32.wrap (s.d + x.d), IntKind.u32.wrap (s.e + x.e), IntKind.u32.wrap (s.f + x.f), IntKind.u32.wrap (s.g + x.g), IntKind.u32.wrap (s.h + x.h)⟩

theorem getD_some {α : Type} (l : List α) (i : Nat) (d : α) (h : i < l.length) : l[i]? = some (l.getD i d) := by simp [h]

theorem step_l0 (F i : Nat) (hi : i < 64) (v z ks ws : List Int) (hk : ks.length = 64) (hw : ws.length = 64) (s : S8) :
    M_sha_step_l0 F ((), (), (), (), (), (i : Int), v, z, ks, ws, s.l, ()) = some (.inl ((), (), (), (), (), ((i + 1 : Nat) : Int), v, z, ks, ws, (rnd s (ks.getD i 0) (ws.getD i 0)).l, ())) := by
  have h1 : (i : Int) < 64 := by omega
  have h0 : (0 : Int) ≤ (i : Int) := by omega
  have k1 := getD_some ks i 0 (by omega)
  have w1 := getD_some ws i 0 (by omega)
  have hn := next_nat i (by omega)
  unfold M_sha_step_l0
  simp only [h1, h0, decide_true, if_true, S8.l, anth, List.getElem?_cons_zero, List.getElem?_cons_succ, Option.bind_some, Int.toNat_natCast, k1, w1, rs2, rs6, rs11, rs13, rs22, rs25, Bool.and_self, hn]
  rfl

theorem ref_l2 (F i : Nat) (hi : i < 64) (t : List UInt8) (p : Int) (v ks ws : List Int) (hk : ks.length = 64) (hw : ws.length = 64) (s : S8) :
    M_conciergeref03_Sum_l2 F ((), (), t, p, (), s.a, s.b, s.c, s.d, s.e, s.f, s.g, s.h, (i : Int), v, ks, ws, ()) =
      some (.inl ((), (), t, p, (), (rnd s (ks.getD i 0) (ws.getD i 0)).a, (rnd s (ks.getD i 0) (ws.getD i 0)).b, (rnd s (ks.getD i 0) (ws.getD i 0)).c, (rnd s (ks.getD i 0) (ws.getD i 0)).d, (rnd s (ks.getD i 0) (ws.getD i 0)).e, (rnd s (ks.getD i 0) (ws.getD i 0)).f, (rnd s (ks.getD i 0) (ws.getD i 0)).g, (rnd s (ks.getD i 0) (ws.getD i 0)).h, ((i + 1 : Nat) : Int), v, ks, ws, ())) := by
  have h1 : (i : Int) < 64 := by omega
  have h0 : (0 : Int) ≤ (i : Int) := by omega
  have k1 := getD_some ks i 0 (by omega)
  have w1 := getD_some ws i 0 (by omega)
  have hn := next_nat i (by omega)
  have rr : ∀ (x n : Int), 0 ≤ n → n ≤ 32 → M_conciergeref03_right F (x, n) = some (rot x n) := fun x n => right_ref F x n
  unfold M_conciergeref03_Sum_l2
  simp only [h1, h0, decide_true, if_true, anth, Option.bind_some, Int.toNat_natCast, k1, w1, right_ref F _ 6 (by decide) (by decide), right_ref F _ 11 (by decide) (by decide), right_ref F _ 25 (by decide) (by decide), right_ref F _ 2 (by decide) (by decide), right_ref F _ 13 (by decide) (by decide), right_ref F _ 22 (by decide) (by decide), Bool.and_self, hn]
  rfl

theorem step_rounds (v z ks ws : List Int) (hk : ks.length = 64) (hw : ws.length = 64) (s : S8) (i : Nat) (hi : i ≤ 64) :
    TendsL M_sha_step_l0 ((), (), (), (), (), (i : Int), v, z, ks, ws, (rounds ks ws s i).l, ()) ((), (), (), v, z, (rounds ks ws s 64).l, ()) := by
  obtain ⟨m, hm⟩ : ∃ m, 64 - i = m := ⟨_, rfl⟩
  induction m generalizing i with
  | zero =>
    have : i = 64 := by omega
    subst this
    refine TendsL.fin (.of fun F => ?_)
    unfold M_sha_step_l0
    rw [if_neg (by simp)]
  | succ m ih =>
    refine TendsL.step (.of fun F => step_l0 F i (by omega) v z ks ws hk hw _) ?_
    exact ih (i + 1) (by omega) (by omega)

theorem ref_rounds (t : List UInt8) (p : Int) (v ks ws : List Int) (hk : ks.length = 64) (hw : ws.length = 64) (s : S8) (i : Nat) (hi : i ≤ 64) :
    TendsL M_conciergeref03_Sum_l2 ((), (), t, p, (), (rounds ks ws s i).a, (rounds ks ws s i).b, (rounds ks ws s i).c, (rounds ks ws s i).d, (rounds ks ws s i).e, (rounds ks ws s i).f, (rounds ks ws s i).g, (rounds ks ws s i).h, (i : Int), v, ks, ws, ())
      ((), (), t, p, (rounds ks ws s 64).a, (rounds ks ws s 64).b, (rounds ks ws s 64).c, (rounds ks ws s 64).d, (rounds ks ws s 64).e, (rounds ks ws s 64).f, (rounds ks ws s 64).g, (rounds ks ws s 64).h, v, ks, ()) := by
  obtain ⟨m, hm⟩ : ∃ m, 64 - i = m := ⟨_, rfl⟩
  induction m generalizing i with
  | zero =>
    have : i = 64 := by omega
    subst this
    refine TendsL.fin (.of fun F => ?_)
    unfold M_conciergeref03_Sum_l2
    rw [if_neg (by simp)]
  | succ m ih =>
    refine TendsL.step (.of fun F => ref_l2 F i (by omega) t p v ks ws hk hw _) ?_
    exact ih (i + 1) (by omega) (by omega)

end Go.Vm
