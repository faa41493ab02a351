/- Letters, digits, plain bytes, methods and keys: plain. No condition. -/
import Derived.Test.YtmbnnjpdpginlaaGreatDoorFcanon
import Derived.Test.YtmbnnjpdpginlaaGreatDoorFref5
import Derived.Test.YtmbnnjpdpginlaaGreatDoorPright
import Derived.Test.YtmbnnjpdpginlaaGreatDoorPbase
namespace Go.Vm
open Go Go.Proofs
set_option linter.unusedVariables false

theorem wrapB' (n : Int) (h : 0 ≤ n) : IntKind.u8.wrap n = n % 256 := by
  simp only [IntKind.wrap, IntKind.signed, IntKind.bits]
  simp
def upN (n : Nat) : Nat := if 97 ≤ n ∧ n ≤ 122 then n - 32 else n
def upC (c : UInt8) : UInt8 := UInt8.ofNat (upN c.toNat)
def isL (c : UInt8) : Bool := decide (65 ≤ upN c.toNat ∧ upN c.toNat ≤ 90)
def dgtN (n : Nat) : Int := if 48 ≤ n ∧ n ≤ 57 then (n : Int) - 48 else if 65 ≤ n ∧ n ≤ 70 then (n : Int) - 55 else if 97 ≤ n ∧ n ≤ 102 then (n : Int) - 87 else -1
def dgt (c : UInt8) : Int := dgtN c.toNat
def plainN (n : Nat) : Bool := decide ((65 ≤ n ∧ n ≤ 90) ∨ (97 ≤ n ∧ n ≤ 122) ∨ (48 ≤ n ∧ n ≤ 57) ∨ n = 45 ∨ n = 46 ∨ n = 95 ∨ n = 126)
def plainB (c : UInt8) : Bool := plainN c.toNat
def hexN (n : Nat) : UInt8 := UInt8.ofNat (if n < 10 then 48 + n else 55 + n)

theorem letter_tab : ∀ c : Fin 256, M_canon_letter 0 ((c.val : Nat) : Int) = some (((upN c.val : Nat) : Int), decide (65 ≤ upN c.val ∧ upN c.val ≤ 90)) := by decide +kernel
theorem digit_tab : ∀ c : Fin 256, M_canon_digit 0 ((c.val : Nat) : Int) = some (dgtN c.val) := by decide +kernel
theorem rdigit_tab : ∀ c : Fin 256, M_conciergeref05_digit 0 ((c.val : Nat) : Int) = some (dgtN c.val) := by decide +kernel
theorem plain_tab : ∀ c : Fin 256, M_canon_plain 0 ((c.val : Nat) : Int) = some (plainN c.val) := by decide +kernel
theorem hex_tab : ∀ c : Fin 16, M_conciergeref05_hex 0 ((c.val : Nat) : Int) = some [hexN c.val] := by decide +kernel
theorem great_tab : ∀ c : Fin 16, idx ([48, 49, 50, 51, 52, 53, 54, 55, 56, 57, 65, 66, 67, 68, 69, 70] : List UInt8) ((c.val : Nat) : Int) = some (hexN c.val) := by decide +kernel
theorem letter_at (F : Nat) (c : UInt8) : M_canon_letter F (c.toNat : Int) = some (((upN c.toNat : Nat) : Int), isL c) := letter_tab ⟨c.toNat, c.toNat_lt⟩
theorem digit_at (F : Nat) (c : UInt8) : M_canon_digit F (c.toNat : Int) = some (dgt c) := digit_tab ⟨c.toNat, c.toNat_lt⟩
theorem rdigit_at (F : Nat) (c : UInt8) : M_conciergeref05_digit F (c.toNat : Int) = some (dgt c) := rdigit_tab ⟨c.toNat, c.toNat_lt⟩
theorem plain_at (F : Nat) (c : UInt8) : M_canon_plain F (c.toNat : Int) = some (plainB c) := plain_tab ⟨c.toNat, c.toNat_lt⟩
theorem hex_at (F n : Nat) (h : n < 16) : M_conciergeref05_hex F (n : Int) = some [hexN n] := hex_tab ⟨n, h⟩
theorem great_at (n : Nat) (h : n < 16) : idx ([48, 49, 50, 51, 52, 53, 54, 55, 56, 57, 65, 66, 67, 68, 69, 70] : List UInt8) (n : Int) = some (hexN n) := great_tab ⟨n, h⟩
theorem dgt_le (c : UInt8) : -1 ≤ dgt c ∧ dgt c ≤ 15 := by unfold dgt dgtN; have := c.toNat_lt; repeat' split
                                                           all_goals omega

theorem byte_back (c : UInt8) : UInt8.ofNat ((c.toNat : Int)).toNat = c := by simp
theorem upC_toNat (c : UInt8) : UInt8.ofNat ((upN c.toNat : Nat) : Int).toNat = upC c := by simp [upC]
theorem wbyte_eq (F : Nat) (l : List UInt8) (n : Int) (hl : l.length ≤ 1000000000000) : M_strings_Builder_WriteByte F (((), l, ()), n) = some ((), ((), l ++ [UInt8.ofNat n.toNat], ())) := by
  have h1 : M_strings_Builder_copyCheck F ((), l, ()) = some ((), ((), l, ())) := rfl
  unfold M_strings_Builder_WriteByte
  simp only [h1, Option.bind_some]
  rw [if_pos (by simp; omega)]
  rfl

theorem bindE {α β : Type} {x : Option α} {a : α} {f : α → Option β} {r : Option β} (h : x = some a) (h2 : f a = r) : x.bind f = r := by rw [h]; exact h2

/-! ### methods -/
def methR (out rest : List UInt8) : (Unit × (Unit × Unit × Unit) × List UInt8 × Unit) ⊕ (List UInt8 × Bool × Unit) := if rest.all isL = true then .inl ((), ((), (), ()), out ++ rest.map upC, ()) else .inr ([], false, ())
theorem methR_t {c : UInt8} {rest out : List UInt8} (h : isL c = true) : methR out (c :: rest) = methR (out ++ [upC c]) rest := by
  unfold methR
  rw [List.all_cons, h, Bool.true_and, List.map_cons, List.append_assoc, List.singleton_append]
theorem methR_f {c : UInt8} {rest out : List UInt8} (h : isL c = false) : methR out (c :: rest) = .inr ([], false, ()) := by
  unfold methR
  rw [List.all_cons, h, Bool.false_and]
  rfl
theorem meth_loop (s : List UInt8) (hs : s.length ≤ 1000) : ∀ (m k : Nat) (out : List UInt8), k + m = s.length → out.length + m ≤ 5000 →
    TendsL M_canon_Method_l0 (s, (), (s.length : Int), (k : Int), ((), (), ()), out, ()) (methR out (s.drop k))
  | 0, k, out, h, ho => by
    refine TendsL.fin (.of fun F => ?_)
    unfold M_canon_Method_l0
    refine (if_neg (by simp; omega)).trans ?_
    rw [List.drop_eq_nil_of_le (by omega)]
    simp [methR]
  | m + 1, k, out, h, ho => by
    have hk : k < s.length := by omega
    have hx := idxN s k (k : Int) rfl hk
    rw [List.drop_eq_getElem_cons hk]
    cases hl : isL s[k]
    · refine TendsL.fin (.of fun F => ?_)
      unfold M_canon_Method_l0
      refine (if_pos (by simp; omega)).trans ?_
      simp only [hx, Option.bind_some, letter_at, hl]
      rw [methR_f hl]
      rfl
    · have ih := meth_loop s hs m (k + 1) (out ++ [upC s[k]]) (by omega) (by simp; omega)
      rw [methR_t hl]
      refine TendsL.step (.of fun F => ?_) ih
      unfold M_canon_Method_l0
      refine (if_pos (by simp; omega)).trans ?_
      simp only [hx, Option.bind_some, letter_at, hl, wbyte_eq F out _ (by omega), upC_toNat]
      rw [if_neg (by simp), next_nat k (by omega)]

def methF (s : List UInt8) : List UInt8 × Bool := if s = [] ∨ 8 < s.length then ([], false) else if s.all isL = true then (s.map upC, true) else ([], false)
theorem methF_out {s : List UInt8} (h : s = [] ∨ 8 < s.length) : methF s = ([], false) := by unfold methF; rw [if_pos h]
theorem methF_in {s : List UInt8} (h : ¬ (s = [] ∨ 8 < s.length)) : methF s = if s.all isL = true then (s.map upC, true) else ([], false) := by unfold methF; rw [if_neg h]
theorem meth_tends (s : List UInt8) : Tends (fun F => M_canon_Method F s) (methF s) := by
  unfold M_canon_Method
  by_cases h0 : s = []
  · rw [methF_out (.inl h0)]
    refine Tends.bind (r := (s, true, ())) (.of fun F => if_neg (by simpa using h0)) (Tends.pos rfl (.ret _))
  by_cases h8 : 8 < s.length
  · rw [methF_out (.inr h8)]
    refine Tends.bind (r := (s, true, ())) (.of fun F => (if_pos (by simpa using h0)).trans ?_) (Tends.pos rfl (.ret _))
    rw [decide_eq_true (by omega)]
  rw [methF_in (by rintro (h | h) <;> contradiction)]
  refine Tends.bind (r := (s, false, ())) (.of fun F => (if_pos (by simpa using h0)).trans ?_) (Tends.neg (by simp) ?_)
  · rw [decide_eq_false (by omega)]
  have hl := meth_loop s (by omega) s.length 0 [] (by omega) (by simp; omega)
  rw [List.drop_zero] at hl
  refine Tends.bind hl.run ?_
  unfold methR
  split
  · exact .ret _
  · exact .ret _

def rmethR (out rest : List UInt8) : (List UInt8 × Unit) ⊕ (List UInt8 × Bool × Unit) := if rest.all isL = true then .inl (out ++ rest.map upC, ()) else .inr ([], false, ())
theorem rmeth_step (F : Nat) (s : List UInt8) (hs : s.length ≤ 1000) (k : Nat) (hk : k < s.length) (out : List UInt8) (ho : out.length ≤ 5000) :
    M_conciergeref05_Method_l0 F (s, out, (k : Int), ()) = if isL s[k] = true then some (.inl (s, out ++ [upC s[k]], ((k + 1 : Nat) : Int), ())) else some (.inr (.inr ([], false, ()))) := by
  have hx := idxN s k (k : Int) rfl hk
  unfold M_conciergeref05_Method_l0
  refine (if_pos (by simp; omega)).trans ?_
  simp only [hx, Option.bind_some]
  have hn : s[k].toNat < 256 := s[k].toNat_lt
  have hU : upC s[k] = UInt8.ofNat (upN s[k].toNat) := rfl
  have hI : isL s[k] = decide (65 ≤ upN s[k].toNat ∧ upN s[k].toNat ≤ 90) := rfl
  rw [hU, hI]
  generalize s[k].toNat = n at hn
  refine bindE (a := (s, out, (k : Int), (n : Int), decide ((97 : Int) ≤ (n : Int) ∧ (n : Int) ≤ 122), ())) ?_ (bindE (a := (s, out, (k : Int), ((upN n : Nat) : Int), ())) ?_ ?_)
  · by_cases h1 : (97 : Int) ≤ (n : Int)
    · simp [h1]
    · simp [h1]
  · unfold upN
    by_cases h1 : 97 ≤ n ∧ n ≤ 122
    · rw [if_pos (decide_eq_true (by omega)), if_pos h1, wrapB' _ (by simp only; omega)]
      simp only [Option.some.injEq, Prod.mk.injEq, true_and, and_true]
      omega
    · rw [if_neg (by simpa using by omega), if_neg h1]
  generalize upN n = u
  refine bindE (a := (s, out, (k : Int), (u : Int), decide (¬ (65 ≤ u ∧ u ≤ 90)), ())) ?_ ?_
  · by_cases h3 : (u : Int) < 65
    · rw [if_neg (by simpa using h3)]
      have : ¬ (65 ≤ u ∧ u ≤ 90) := by omega
      simp [this]
    · rw [if_pos (by simpa using h3)]
      simp only [Option.some.injEq, Prod.mk.injEq, true_and, and_true, decide_eq_decide]
      omega
  · by_cases h5 : 65 ≤ u ∧ u ≤ 90
    · rw [if_neg (by simp [h5]), if_pos (decide_eq_true h5), if_pos (by simp; omega), next_nat k (by omega)]
      rfl
    · rw [if_pos (decide_eq_true h5), if_neg (by simpa using h5)]
theorem rmethR_t {c : UInt8} {rest out : List UInt8} (h : isL c = true) : rmethR out (c :: rest) = rmethR (out ++ [upC c]) rest := by
  unfold rmethR
  rw [List.all_cons, h, Bool.true_and, List.map_cons, List.append_assoc, List.singleton_append]
theorem rmethR_f {c : UInt8} {rest out : List UInt8} (h : isL c = false) : rmethR out (c :: rest) = .inr ([], false, ()) := by
  unfold rmethR
  rw [List.all_cons, h, Bool.false_and]
  rfl
theorem rmeth_loop (s : List UInt8) (hs : s.length ≤ 1000) : ∀ (m k : Nat) (out : List UInt8), k + m = s.length → out.length + m ≤ 5000 →
    TendsL M_conciergeref05_Method_l0 (s, out, (k : Int), ()) (rmethR out (s.drop k))
  | 0, k, out, h, ho => by
    refine TendsL.fin (.of fun F => ?_)
    unfold M_conciergeref05_Method_l0
    refine (if_neg (by simp; omega)).trans ?_
    rw [List.drop_eq_nil_of_le (by omega)]
    simp [rmethR]
  | m + 1, k, out, h, ho => by
    have hk : k < s.length := by omega
    rw [List.drop_eq_getElem_cons hk]
    cases hl : isL s[k]
    · refine TendsL.fin (.of fun F => ?_)
      rw [rmeth_step F s hs k hk out (by omega), hl, if_neg (by simp), rmethR_f hl]
    · have ih := rmeth_loop s hs m (k + 1) (out ++ [upC s[k]]) (by omega) (by simp; omega)
      rw [rmethR_t hl]
      refine TendsL.step (.of fun F => ?_) ih
      rw [rmeth_step F s hs k hk out (by omega), hl, if_pos rfl]
theorem rmeth_tends (s : List UInt8) : Tends (fun F => M_conciergeref05_Method F s) (methF s) := by
  unfold M_conciergeref05_Method
  by_cases h0 : s = []
  · rw [methF_out (.inl h0)]
    refine Tends.bind (r := (s, true, ())) (.of fun F => if_neg (by simp [h0])) (Tends.pos rfl (.ret _))
  have hl0 : 0 < s.length := List.length_pos_iff.2 h0
  by_cases h8 : 8 < s.length
  · rw [methF_out (.inr h8)]
    refine Tends.bind (r := (s, true, ())) (.of fun F => (if_pos (by simp; omega)).trans ?_) (Tends.pos rfl (.ret _))
    rw [decide_eq_true (by omega)]
  rw [methF_in (by rintro (h | h) <;> contradiction)]
  refine Tends.bind (r := (s, false, ())) (.of fun F => (if_pos (by simp; omega)).trans ?_) (Tends.neg (by simp) ?_)
  · rw [decide_eq_false (by omega)]
  have hl := rmeth_loop s (by omega) s.length 0 [] (by omega) (by simp; omega)
  rw [List.drop_zero] at hl
  refine Tends.bind hl.run ?_
  unfold rmethR
  split
  · exact .ret _
  · exact .ret _

theorem up_tab : ∀ c : Fin 256, upN (upN c.val) = upN c.val ∧ upN c.val < 256 := by decide +kernel
theorem upC_nat (c : UInt8) : (upC c).toNat = upN c.toNat := by
  have := (up_tab ⟨c.toNat, c.toNat_lt⟩).2
  simp only at this
  simp [upC]
  omega
theorem upC_up (c : UInt8) : upC (upC c) = upC c := by
  have := (up_tab ⟨c.toNat, c.toNat_lt⟩).1
  simp only at this
  unfold upC
  have e := upC_nat c
  unfold upC at e
  rw [e, this]
theorem isL_up (c : UInt8) : isL (upC c) = isL c := by
  have := (up_tab ⟨c.toNat, c.toNat_lt⟩).1
  simp only at this
  unfold isL
  rw [upC_nat, this]
theorem methF_again (s : List UInt8) (h : (methF s).2 = true) : methF (methF s).1 = ((methF s).1, true) := by
  unfold methF at h
  split at h
  · cases h
  · rename_i h1
    split at h
    · rename_i h2
      have e : methF s = (s.map upC, true) := by unfold methF; rw [if_neg h1, if_pos h2]
      rw [e]
      unfold methF
      rw [if_neg (by simpa using h1), if_pos (by simpa [isL_up] using h2)]
      simp [upC_up]
    · cases h

/-! ### keys -/
def keyR (r : Int) : Bool := decide (sortI r = 2 ∨ sortI r = 3 ∨ r = 45 ∨ r = 95 ∨ r = 46)
def keyB (l : List Int) : Unit ⊕ (Bool × Unit) := if l.all keyR = true then .inl () else .inr (false, ())
def keyF (s : List UInt8) : Bool := if s = [] ∨ 24 < s.length then false else ((signs s).map (·.1)).all keyR

theorem keyB_t {n : Int} {l : List Int} (h : keyR n = true) : keyB (n :: l) = keyB l := by
  unfold keyB
  rw [List.all_cons, h, Bool.true_and]
theorem keyB_f {n : Int} {l : List Int} (h : ¬ keyR n = true) : keyB (n :: l) = .inr (false, ()) := by
  unfold keyB
  rw [List.all_cons, Bool.eq_false_iff.2 h, Bool.false_and]
  rfl
theorem key_step (F : Nat) (s : List UInt8) (p : Nat) (hp : p < s.length) : M_canon_Key_l0 F ((), (s, p), ()) = if keyR (runeAt s p) = true then some (.inl ((), (s, p + runeLen s p), ())) else some (.inr (.inr (false, ()))) := by
  unfold M_canon_Key_l0
  refine (if_pos (by simpa using hp)).trans ?_
  simp only [sort_eq, Option.bind_some]
  generalize runeAt s p = r
  unfold keyR
  by_cases h2 : sortI r = 2
  · simp [h2]
  by_cases h3 : sortI r = 3
  · simp [h3]
  by_cases h45 : r = 45
  · subst h45; simp [h2, h3]
  by_cases h95 : r = 95
  · subst h95; simp [h2, h3]
  by_cases h46 : r = 46
  · subst h46; simp [h2, h3]
  simp [h2, h3, h45, h95, h46]
theorem key_loop (s : List UInt8) (p : Nat) (hp : p ≤ s.length) : TendsL M_canon_Key_l0 ((), (s, p), ()) (keyB ((signs (s.drop p)).map (·.1))) := by
  suffices hh : ∀ n p, p ≤ s.length → s.length - p ≤ n → TendsL M_canon_Key_l0 ((), (s, p), ()) (keyB ((signs (s.drop p)).map (·.1))) from hh _ p hp (Nat.le_refl _)
  intro n
  induction n with
  | zero =>
    intro p hp hn
    refine TendsL.fin (.of fun F => ?_)
    unfold M_canon_Key_l0
    refine (if_neg (by simp; omega)).trans ?_
    rw [List.drop_eq_nil_of_le (by omega), signs_nil]
    rfl
  | succ n ih =>
    intro p hp hn
    by_cases hlt : p < s.length
    · have hr := runeAt_eq s p
      have hl := runeLen_eq s p
      have hpos := Go.Lib.decodeL_le (s.drop p)
      have h1 := decodeL_pos (s.drop p)
      rw [signs_cons (drop_ne hlt), List.map_cons]
      by_cases hk : keyR ((Go.Lib.decodeL (s.drop p)).1 : Int) = true
      · have hb : keyB (((Go.Lib.decodeL (s.drop p)).1 : Int) :: (signs ((s.drop p).drop (Go.Lib.decodeL (s.drop p)).2)).map (·.1)) = keyB ((signs (s.drop (p + (Go.Lib.decodeL (s.drop p)).2))).map (·.1)) := by
          rw [keyB_t hk, drop_next]
        rw [hb]
        refine TendsL.step (.of fun F => ?_) (ih (p + (Go.Lib.decodeL (s.drop p)).2) (next_le hlt) (by omega))
        rw [key_step F s p hlt, hr, hl, if_pos hk]
      · refine TendsL.fin (.of fun F => ?_)
        rw [key_step F s p hlt, hr, if_neg hk, keyB_f hk]
    · have : p = s.length := by omega
      subst this
      refine TendsL.fin (.of fun F => ?_)
      unfold M_canon_Key_l0
      refine (if_neg (by simp)).trans ?_
      rw [List.drop_eq_nil_of_le (by omega), signs_nil]
      rfl
theorem keyF_out {s : List UInt8} (h : s = [] ∨ 24 < s.length) : keyF s = false := by unfold keyF; rw [if_pos h]
theorem keyF_in {s : List UInt8} (h : ¬ (s = [] ∨ 24 < s.length)) : keyF s = ((signs s).map (·.1)).all keyR := by unfold keyF; rw [if_neg h]
theorem key_tends (s : List UInt8) : Tends (fun F => M_canon_Key F s) (keyF s) := by
  unfold M_canon_Key
  by_cases h0 : s = []
  · rw [keyF_out (.inl h0)]
    refine Tends.bind (r := (s, true, ())) (.of fun F => if_neg (by simpa using h0)) (Tends.pos rfl (.ret _))
  by_cases h8 : 24 < s.length
  · rw [keyF_out (.inr h8)]
    refine Tends.bind (r := (s, true, ())) (.of fun F => (if_pos (by simpa using h0)).trans ?_) (Tends.pos rfl (.ret _))
    rw [decide_eq_true (by omega)]
  rw [keyF_in (by rintro (h | h) <;> contradiction)]
  refine Tends.bind (r := (s, false, ())) (.of fun F => (if_pos (by simpa using h0)).trans ?_) (Tends.neg (by simp) ?_)
  · rw [decide_eq_false (by omega)]
  have hl := key_loop s 0 (by omega)
  rw [List.drop_zero] at hl
  refine Tends.bind hl.run ?_
  unfold keyB
  cases hb : ((signs s).map (·.1)).all keyR
  · exact .ret _
  · exact .ret _
theorem rkey_step (F : Nat) (ns : List Int) (hn : ns.length ≤ 1000000) (k : Nat) (hk : k < ns.length) : M_conciergeref05_Key_l0 F (ns, (k : Int), ()) = if keyR ns[k] = true then some (.inl (ns, ((k + 1 : Nat) : Int), ())) else some (.inr (.inr (false, ()))) := by
  have hx := idxN ns k (k : Int) rfl hk
  unfold M_conciergeref05_Key_l0
  refine (if_pos (by simp; omega)).trans ?_
  simp only [hx, refSort_eq, Option.bind_some]
  generalize ns[k] = r at hx
  unfold keyR
  by_cases h2 : sortI r = 2
  · simp [h2, next_nat k (by omega)]
  by_cases h3 : sortI r = 3
  · simp [h3, next_nat k (by omega)]
  by_cases h45 : r = 45
  · subst h45; simp [h2, h3, hx, next_nat k (by omega)]
  by_cases h95 : r = 95
  · subst h95; simp [h2, h3, hx, next_nat k (by omega)]
  by_cases h46 : r = 46
  · subst h46; simp [h2, h3, hx, next_nat k (by omega)]
  simp [h2, h3, h45, h95, h46, hx]
theorem rkey_loop (ns : List Int) (hn : ns.length ≤ 1000000) : ∀ (m k : Nat), k + m = ns.length → TendsL M_conciergeref05_Key_l0 (ns, (k : Int), ()) (keyB (ns.drop k))
  | 0, k, h => by
    refine TendsL.fin (.of fun F => ?_)
    unfold M_conciergeref05_Key_l0
    refine (if_neg (by simp; omega)).trans ?_
    rw [List.drop_eq_nil_of_le (by omega)]
    rfl
  | m + 1, k, h => by
    have hk : k < ns.length := by omega
    rw [List.drop_eq_getElem_cons hk]
    by_cases hr : keyR ns[k] = true
    · rw [keyB_t hr]
      refine TendsL.step (.of fun F => ?_) (rkey_loop ns hn m (k + 1) (by omega))
      rw [rkey_step F ns hn k hk, if_pos hr]
    · refine TendsL.fin (.of fun F => ?_)
      rw [rkey_step F ns hn k hk, if_neg hr, keyB_f hr]
theorem rkey_tends (s : List UInt8) : Tends (fun F => M_conciergeref05_Key F s) (keyF s) := by
  unfold M_conciergeref05_Key
  by_cases h0 : s = []
  · rw [keyF_out (.inl h0)]
    refine Tends.bind (r := (s, true, ())) (.of fun F => if_neg (by simp [h0])) (Tends.pos rfl (.ret _))
  have hl0 : 0 < s.length := List.length_pos_iff.2 h0
  by_cases h8 : 24 < s.length
  · rw [keyF_out (.inr h8)]
    refine Tends.bind (r := (s, true, ())) (.of fun F => (if_pos (by simp; omega)).trans ?_) (Tends.pos rfl (.ret _))
    rw [decide_eq_true (by omega)]
  rw [keyF_in (by rintro (h | h) <;> contradiction)]
  refine Tends.bind (r := (s, false, ())) (.of fun F => (if_pos (by simp; omega)).trans ?_) (Tends.neg (by simp) ?_)
  · rw [decide_eq_false (by omega)]
  have hsl := signs_len s
  refine Tends.bind (signs_tends s (by omega)) ?_
  have hl := rkey_loop ((signs s).map (·.1)) (by simp; omega) _ 0 (Nat.zero_add _)
  rw [List.drop_zero] at hl
  refine Tends.bind hl.run ?_
  unfold keyB
  cases hb : ((signs s).map (·.1)).all keyR
  · exact .ret _
  · exact .ret _

end Go.Vm
