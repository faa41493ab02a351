import Derived.Test.YtocgjbdimjlfhaaGreatDoorPu3
import Derived.Test.YtocgjbdimjlfhaaGreatDoorPh3
import Derived.Test.YtocgjbdimjlfhaaGreatDoorFcanon
import Derived.Test.YtocgjbdimjlfhaaGreatDoorFref5
import Derived.Test.YtocgjbdimjlfhaaGreatDoorPg1
/- Right texts, plainly. No condition. -/
namespace Go.Vm
open Go.Lib (decodeL decodeN decodeL_N decode_N decodeN_shape decodeL_le)
set_option linter.unusedVariables false
set_option linter.unusedSimpArgs false
def badN (l : List Int) : Bool := l.any fun n => decide (sortI n = 0)
def badR (l : List Int) : Unit ⊕ Bool × Unit := if badN l = true then .inr (false, ()) else .inl ()
theorem badR_nil : badR [] = .inl () := rfl
theorem badR_cons (n : Int) (l : List Int) : badR (n :: l) = if sortI n = 0 then .inr (false, ()) else badR l := by
  unfold badR badN
  by_cases h : sortI n = 0 <;> simp [h]
theorem rightLoop (s : List UInt8) (p : Nat) (hp : p ≤ s.length) : TendsL M_sign_Right_l0 ((), (s, p), ()) (badR ((signs (s.drop p)).map (·.1))) := by
  have main : ∀ n p, s.length - p ≤ n → p ≤ s.length → TendsL M_sign_Right_l0 ((), (s, p), ()) (badR ((signs (s.drop p)).map (·.1))) := by
    intro n
    induction n with
    | zero =>
      intro p hn hp
      have : p = s.length := by omega
      subst this
      refine TendsL.fin (Tends.of fun F => ?_)
      unfold M_sign_Right_l0
      simp [signs_nil, badR_nil]
    | succ n ih =>
      intro p hn hp
      by_cases hlt : p < s.length
      · have hpos := decodeL_pos (s.drop p)
        have hnx := next_le hlt
        rw [signs_cons (drop_ne hlt), drop_next, List.map_cons, badR_cons]
        by_cases h0 : sortI ((decodeL (s.drop p)).1 : Int) = 0
        · refine TendsL.fin (Tends.of fun F => ?_)
          unfold M_sign_Right_l0
          simp only [hlt, decide_true, if_true, runeAt_eq, sort_eq, Option.bind_some, h0]
        · rw [if_neg h0]
          refine TendsL.step (x' := ((), (s, p + (decodeL (s.drop p)).2), ())) (Tends.of fun F => ?_) (ih _ (by omega) hnx)
          unfold M_sign_Right_l0
          simp only [hlt, decide_true, if_true, runeAt_eq, runeLen_eq, sort_eq, Option.bind_some, h0, decide_false, Bool.false_eq_true, if_false]
      · have : p = s.length := by omega
        subst this
        refine TendsL.fin (Tends.of fun F => ?_)
        unfold M_sign_Right_l0
        simp [signs_nil, badR_nil]
  exact main _ p (Nat.le_refl _) hp
theorem refRightLoop (ns : List Int) (hn : ns.length ≤ 1000000000000) (k : Nat) (hk : k ≤ ns.length) : TendsL M_conciergeref04_Right_l0 (ns, (k : Int), ()) (badR (ns.drop k)) := by
  have main : ∀ n k, ns.length - k ≤ n → k ≤ ns.length → TendsL M_conciergeref04_Right_l0 (ns, (k : Int), ()) (badR (ns.drop k)) := by
    intro n
    induction n with
    | zero =>
      intro k hn hk
      have : k = ns.length := by omega
      subst this
      refine TendsL.fin (Tends.of fun F => ?_)
      unfold M_conciergeref04_Right_l0
      simp [badR_nil]
    | succ n ih =>
      intro k hn' hk
      by_cases hlt : k < ns.length
      · have h : (k : Int) < (ns.length : Int) := by omega
        have hm : ns[k]? = some ns[k] := by simp [hlt]
        rw [List.drop_eq_getElem_cons hlt, badR_cons]
        by_cases h0 : sortI ns[k] = 0
        · refine TendsL.fin (Tends.of fun F => ?_)
          unfold M_conciergeref04_Right_l0
          simp only [h, decide_true, if_true, idxAt ns k _ hm, refSort_eq, Option.bind_some, h0]
        · rw [if_neg h0]
          refine TendsL.step (x' := (ns, ((k + 1 : Nat) : Int), ())) (Tends.of fun F => ?_) (ih _ (by omega) (by omega))
          have w : IntKind.i64.wrap ((k : Int) + 1) = ((k + 1 : Nat) : Int) := by rw [wrap64 _ (by omega) (by omega)]; rfl
          unfold M_conciergeref04_Right_l0
          simp only [h, decide_true, if_true, idxAt ns k _ hm, refSort_eq, Option.bind_some, h0, decide_false, Bool.false_eq_true, if_false, w]
      · have : k = ns.length := by omega
        subst this
        refine TendsL.fin (Tends.of fun F => ?_)
        unfold M_conciergeref04_Right_l0
        simp [badR_nil]
  exact main _ k (Nat.le_refl _) hk
def rightB (s : List UInt8) (r : Int) : Bool := if s = [] ∨ r < (s.length : Int) then false else sumC (badR ((signs s).map (·.1))) (fun _ => true) fun v => v.1
theorem sumC_some {α β γ : Type} (x : α ⊕ β) (f : α → γ) (g : β → γ) : sumC x (fun a => some (f a)) (fun b => some (g b)) = some (sumC x f g) := by cases x <;> rfl
theorem right_tends (s : List UInt8) (r : Int) : Tends (fun F => M_sign_Right F (s, r)) (rightB s r) := by
  unfold M_sign_Right rightB
  by_cases h1 : s = []
  · simp only [h1, decide_true, Bool.true_eq_false, if_false, Option.bind_some, if_true, true_or]
    exact Tends.ret false
  by_cases h2 : r < (s.length : Int)
  · simp only [h1, h2, decide_true, decide_false, Bool.true_eq_false, if_false, Option.bind_some, if_true, or_true]
    exact Tends.ret false
  · simp only [h1, h2, decide_true, decide_false, Bool.false_eq_true, if_false, Option.bind_some, if_true, or_self]
    have := rightLoop s 0 (by omega)
    refine this.run.bind ?_
    rw [List.drop_zero]
    exact Tends.of fun F => sumC_some _ _ _
theorem refRight_tends (s : List UInt8) (hs : s.length ≤ 100000000000) (r : Int) : Tends (fun F => M_conciergeref04_Right F (s, r)) (rightB s r) := by
  unfold M_conciergeref04_Right rightB
  have hl := signs_len s
  by_cases h1 : s = []
  · simp only [h1, List.length_nil, true_or, if_true]
    exact Tends.ret false
  have h1' : ¬ (s.length : Int) < 1 := by have := List.length_pos_iff.2 h1; omega
  by_cases h2 : r < (s.length : Int)
  · simp only [h1, h1', h2, decide_true, decide_false, Bool.true_eq_false, if_false, Option.bind_some, if_true, or_true]
    exact Tends.ret false
  · simp only [h1, h1', h2, decide_true, decide_false, Bool.false_eq_true, if_false, Option.bind_some, if_true, or_self]
    refine (signs_tends s (by omega)).bind ?_
    have := refRightLoop ((signs s).map (·.1)) (by simp; omega) 0 (by omega)
    refine this.run.bind ?_
    rw [List.drop_zero]
    exact Tends.of fun F => sumC_some _ _ _
end Go.Vm
/- Letters, digits, plain bytes, methods and keys: plain. No condition. -/
namespace Go.Vm
open Go Go.Proofs
set_option linter.unusedVariables false
theorem wrapB' (n : Int) (h : 0 ≤ n) : IntKind.u8.wrap n = n % 256 := by
  simp only [IntKind.wrap, IntKind.signed, IntKind.bits]
  simp
def upN (n : Nat) : Nat := if 97 ≤ n ∧ n ≤ 122 then n - 32 else n
def upC (c : UInt8) : UInt8 := UInt8.ofNat (upN c.toNat)
def isL (c : UInt8) : Bool := decide (65 ≤ upN c.toNat ∧ upN c.toNat ≤ 90)
def dgtN (n : Nat) : Int := if 48 ≤ n ∧ n ≤ 57 then (n : Int) - 48 else if 65 ≤ n ∧ n ≤ 70 then (n : Int) - 55 else if 97 ≤ n ∧ n ≤ 102 then (n : Int) - 87 else -1
def dgt (c : UInt8) : Int := dgtN c.toNat
def plainN (n : Nat) : Bool := decide ((65 ≤ n ∧ n ≤ 90) ∨ (97 ≤ n ∧ n ≤ 122) ∨ (48 ≤ n ∧ n ≤ 57) ∨ n = 45 ∨ n = 46 ∨ n = 95 ∨ n = 126)
def plainB (c : UInt8) : Bool := plainN c.toNat
def hexU (n : Nat) : UInt8 := UInt8.ofNat (if n < 10 then 48 + n else 55 + n)
theorem letter_tab : ∀ c : Fin 256, M_canon_letter 0 ((c.val : Nat) : Int) = some (((upN c.val : Nat) : Int), decide (65 ≤ upN c.val ∧ upN c.val ≤ 90)) := by decide +kernel
theorem digit_tab : ∀ c : Fin 256, M_canon_digit 0 ((c.val : Nat) : Int) = some (dgtN c.val) := by decide +kernel
theorem rdigit_tab : ∀ c : Fin 256, M_conciergeref05_digit 0 ((c.val : Nat) : Int) = some (dgtN c.val) := by decide +kernel
theorem plain_tab : ∀ c : Fin 256, M_canon_plain 0 ((c.val : Nat) : Int) = some (plainN c.val) := by decide +kernel
theorem hex_tab : ∀ c : Fin 16, M_conciergeref05_hex 0 ((c.val : Nat) : Int) = some [hexU c.val] := by decide +kernel
theorem great_tab : ∀ c : Fin 16, idx ([48, 49, 50, 51, 52, 53, 54, 55, 56, 57, 65, 66, 67, 68, 69, 70] : List UInt8) ((c.val : Nat) : Int) = some (hexU c.val) := by decide +kernel
theorem letter_at (F : Nat) (c : UInt8) : M_canon_letter F (c.toNat : Int) = some (((upN c.toNat : Nat) : Int), isL c) := letter_tab ⟨c.toNat, c.toNat_lt⟩
theorem digit_at (F : Nat) (c : UInt8) : M_canon_digit F (c.toNat : Int) = some (dgt c) := digit_tab ⟨c.toNat, c.toNat_lt⟩
theorem rdigit_at (F : Nat) (c : UInt8) : M_conciergeref05_digit F (c.toNat : Int) = some (dgt c) := rdigit_tab ⟨c.toNat, c.toNat_lt⟩
theorem plain_at (F : Nat) (c : UInt8) : M_canon_plain F (c.toNat : Int) = some (plainB c) := plain_tab ⟨c.toNat, c.toNat_lt⟩
theorem hex_at (F n : Nat) (h : n < 16) : M_conciergeref05_hex F (n : Int) = some [hexU n] := hex_tab ⟨n, h⟩
theorem great_at (n : Nat) (h : n < 16) : idx ([48, 49, 50, 51, 52, 53, 54, 55, 56, 57, 65, 66, 67, 68, 69, 70] : List UInt8) (n : Int) = some (hexU n) := great_tab ⟨n, h⟩
theorem dgt_le (c : UInt8) : -1 ≤ dgt c ∧ dgt c ≤ 15 := by unfold dgt dgtN; have := c.toNat_lt; repeat' split
                                                           all_goals omega
theorem byte_back (c : UInt8) : UInt8.ofNat ((c.toNat : Int)).toNat = c := by simp
theorem upC_toNat (c : UInt8) : UInt8.ofNat ((upN c.toNat : Nat) : Int).toNat = upC c := by simp [upC]
theorem wbyte_eq (F : Nat) (l : List UInt8) (n : Int) (hl : l.length ≤ 1000000000000) : M_strings_Builder_WriteByte F (((), l, ()), n) = some ((), ((), l ++ [UInt8.ofNat n.toNat], ())) := by
  have h1 : M_strings_Builder_copyCheck F ((), l, ()) = some ((), ((), l, ())) := rfl
  unfold M_strings_Builder_WriteByte
  simp only [h1, Option.bind_some]
  rw [if_pos (by simp; omega)]
  rfl
theorem bindE {α β : Type} {x : Option α} {a : α} {f : α → Option β} {r : Option β} (h : x = some a) (h2 : f a = r) : x.bind f = r := by rw [h]; exact h2
/-! ### methods -/
def methR (out rest : List UInt8) : (Unit × (Unit × Unit × Unit) × List UInt8 × Unit) ⊕ (List UInt8 × Bool × Unit) := if rest.all isL = true then .inl ((), ((), (), ()), out ++ rest.map upC, ()) else .inr ([], false, ())
theorem methR_t {c : UInt8} {rest out : List UInt8} (h : isL c = true) : methR out (c :: rest) = methR (out ++ [upC c]) rest := by
  unfold methR
  rw [List.all_cons, h, Bool.true_and, List.map_cons, List.append_assoc, List.singleton_append]
theorem methR_f {c : UInt8} {rest out : List UInt8} (h : isL c = false) : methR out (c :: rest) = .inr ([], false, ()) := by
  unfold methR
  rw [List.all_cons, h, Bool.false_and]
  rfl
theorem meth_loop (s : List UInt8) (hs : s.length ≤ 1000) : ∀ (m k : Nat) (out : List UInt8), k + m = s.length → out.length + m ≤ 5000 →
    TendsL M_canon_Method_l0 (s, (), (s.length : Int), (k : Int), ((), (), ()), out, ()) (methR out (s.drop k))
  | 0, k, out, h, ho => by
    refine TendsL.fin (.of fun F => ?_)
    unfold M_canon_Method_l0
    refine (if_neg (by simp; omega)).trans ?_
    rw [List.drop_eq_nil_of_le (by omega)]
    simp [methR]
  | m + 1, k, out, h, ho => by
    have hk : k < s.length := by omega
    have hx := idxN s k (k : Int) rfl hk
    rw [List.drop_eq_getElem_cons hk]
    cases hl : isL s[k]
    · refine TendsL.fin (.of fun F => ?_)
      unfold M_canon_Method_l0
      refine (if_pos (by simp; omega)).trans ?_
      simp only [hx, Option.bind_some, letter_at, hl]
      rw [methR_f hl]
      rfl
    · have ih := meth_loop s hs m (k + 1) (out ++ [upC s[k]]) (by omega) (by simp; omega)
      rw [methR_t hl]
      refine TendsL.step (.of fun F => ?_) ih
      unfold M_canon_Method_l0
      refine (if_pos (by simp; omega)).trans ?_
      simp only [hx, Option.bind_some, letter_at, hl, wbyte_eq F out _ (by omega), upC_toNat]
      rw [if_neg (by simp), next_nat k (by omega)]
def methF (s : List UInt8) : List UInt8 × Bool := if s = [] ∨ 8 < s.length then ([], false) else if s.all isL = true then (s.map upC, true) else ([], false)
theorem methF_out {s : List UInt8} (h : s = [] ∨ 8 < s.length) : methF s = ([], false) := by unfold methF; rw [if_pos h]
theorem methF_in {s : List UInt8} (h : ¬ (s = [] ∨ 8 < s.length)) : methF s = if s.all isL = true then (s.map upC, true) else ([], false) := by unfold methF; rw [if_neg h]
theorem meth_tends (s : List UInt8) : Tends (fun F => M_canon_Method F s) (methF s) := by
  unfold M_canon_Method
  by_cases h0 : s = []
  · rw [methF_out (.inl h0)]
    refine Tends.bind (r := (s, true, ())) (.of fun F => if_neg (by simpa using h0)) (Tends.pos rfl (.ret _))
  by_cases h8 : 8 < s.length
  · rw [methF_out (.inr h8)]
    refine Tends.bind (r := (s, true, ())) (.of fun F => (if_pos (by simpa using h0)).trans ?_) (Tends.pos rfl (.ret _))
    rw [decide_eq_true (by omega)]
  rw [methF_in (by rintro (h | h) <;> contradiction)]
  refine Tends.bind (r := (s, false, ())) (.of fun F => (if_pos (by simpa using h0)).trans ?_) (Tends.neg (by simp) ?_)
  · rw [decide_eq_false (by omega)]
  have hl := meth_loop s (by omega) s.length 0 [] (by omega) (by simp; omega)
  rw [List.drop_zero] at hl
  refine Tends.bind hl.run ?_
  unfold methR
  split
  · exact .ret _
  · exact .ret _
def rmethR (out rest : List UInt8) : (List UInt8 × Unit) ⊕ (List UInt8 × Bool × Unit) := if rest.all isL = true then .inl (out ++ rest.map upC, ()) else .inr ([], false, ())
theorem rmeth_step (F : Nat) (s : List UInt8) (hs : s.length ≤ 1000) (k : Nat) (hk : k < s.length) (out : List UInt8) (ho : out.length ≤ 5000) :
    M_conciergeref05_Method_l0 F (s, out, (k : Int), ()) = if isL s[k] = true then some (.inl (s, out ++ [upC s[k]], ((k + 1 : Nat) : Int), ())) else some (.inr (.inr ([], false, ()))) := by
  have hx := idxN s k (k : Int) rfl hk
  unfold M_conciergeref05_Method_l0
  refine (if_pos (by simp; omega)).trans ?_
  simp only [hx, Option.bind_some]
  have hn : s[k].toNat < 256 := s[k].toNat_lt
  have hU : upC s[k] = UInt8.ofNat (upN s[k].toNat) := rfl
  have hI : isL s[k] = decide (65 ≤ upN s[k].toNat ∧ upN s[k].toNat ≤ 90) := rfl
  rw [hU, hI]
  generalize s[k].toNat = n at hn
  refine bindE (a := (s, out, (k : Int), (n : Int), decide ((97 : Int) ≤ (n : Int) ∧ (n : Int) ≤ 122), ())) ?_ (bindE (a := (s, out, (k : Int), ((upN n : Nat) : Int), ())) ?_ ?_)
  · by_cases h1 : (97 : Int) ≤ (n : Int)
    · simp [h1]
    · simp [h1]
  · unfold upN
    by_cases h1 : 97 ≤ n ∧ n ≤ 122
    · rw [if_pos (decide_eq_true (by omega)), if_pos h1, wrapB' _ (by simp only; omega)]
      simp only [Option.some.injEq, Prod.mk.injEq, true_and, and_true]
      omega
    · rw [if_neg (by simpa using by omega), if_neg h1]
  generalize upN n = u
  refine bindE (a := (s, out, (k : Int), (u : Int), decide (¬ (65 ≤ u ∧ u ≤ 90)), ())) ?_ ?_
  · by_cases h3 : (u : Int) < 65
    · rw [if_neg (by simpa using h3)]
      have : ¬ (65 ≤ u ∧ u ≤ 90) := by omega
      simp [this]
    · rw [if_pos (by simpa using h3)]
      simp only [Option.some.injEq, Prod.mk.injEq, true_and, and_true, decide_eq_decide]
      omega
  · by_cases h5 : 65 ≤ u ∧ u ≤ 90
    · rw [if_neg (by simp [h5]), if_pos (decide_eq_true h5), if_pos (by simp; omega), next_nat k (by omega)]
      rfl
    · rw [if_pos (decide_eq_true h5), if_neg (by simpa using h5)]
theorem rmethR_t {c : UInt8} {rest out : List UInt8} (h : isL c = true) : rmethR out (c :: rest) = rmethR (out ++ [upC c]) rest := by
  unfold rmethR
  rw [List.all_cons, h, Bool.true_and, List.map_cons, List.append_assoc, List.singleton_append]
theorem rmethR_f {c : UInt8} {rest out : List UInt8} (h : isL c = false) : rmethR out (c :: rest) = .inr ([], false, ()) := by
  unfold rmethR
  rw [List.all_cons, h, Bool.false_and]
  rfl
theorem rmeth_loop (s : List UInt8) (hs : s.length ≤ 1000) : ∀ (m k : Nat) (out : List UInt8), k + m = s.length → out.length + m ≤ 5000 →
    TendsL M_conciergeref05_Method_l0 (s, out, (k : Int), ()) (rmethR out (s.drop k))
  | 0, k, out, h, ho => by
    refine TendsL.fin (.of fun F => ?_)
    unfold M_conciergeref05_Method_l0
    refine (if_neg (by simp; omega)).trans ?_
    rw [List.drop_eq_nil_of_le (by omega)]
    simp [rmethR]
  | m + 1, k, out, h, ho => by
    have hk : k < s.length := by omega
    rw [List.drop_eq_getElem_cons hk]
    cases hl : isL s[k]
    · refine TendsL.fin (.of fun F => ?_)
      rw [rmeth_step F s hs k hk out (by omega), hl, if_neg (by simp), rmethR_f hl]
    · have ih := rmeth_loop s hs m (k + 1) (out ++ [upC s[k]]) (by omega) (by simp; omega)
      rw [rmethR_t hl]
      refine TendsL.step (.of fun F => ?_) ih
      rw [rmeth_step F s hs k hk out (by omega), hl, if_pos rfl]
theorem rmeth_tends (s : List UInt8) : Tends (fun F => M_conciergeref05_Method F s) (methF s) := by
  unfold M_conciergeref05_Method
  by_cases h0 : s = []
  · rw [methF_out (.inl h0)]
    refine Tends.bind (r := (s, true, ())) (.of fun F => if_neg (by simp [h0])) (Tends.pos rfl (.ret _))
  have hl0 : 0 < s.length := List.length_pos_iff.2 h0
  by_cases h8 : 8 < s.length
  · rw [methF_out (.inr h8)]
    refine Tends.bind (r := (s, true, ())) (.of fun F => (if_pos (by simp; omega)).trans ?_) (Tends.pos rfl (.ret _))
    rw [decide_eq_true (by omega)]
  rw [methF_in (by rintro (h | h) <;> contradiction)]
  refine Tends.bind (r := (s, false, ())) (.of fun F => (if_pos (by simp; omega)).trans ?_) (Tends.neg (by simp) ?_)
  · rw [decide_eq_false (by omega)]
  have hl := rmeth_loop s (by omega) s.length 0 [] (by omega) (by simp; omega)
  rw [List.drop_zero] at hl
  refine Tends.bind hl.run ?_
  unfold rmethR
  split
  · exact .ret _
  · exact .ret _
end Go.Vm
/- Reading and writing the parts of a path: plain. No condition. -/
namespace Go.Vm
open Go Go.Proofs
set_option linter.unusedVariables false
def byteOf (a b : UInt8) : UInt8 := UInt8.ofNat (16 * (dgt a).toNat + (dgt b).toNat)
def readL : List UInt8 → Option (List UInt8)
  | [] => some []
  | c :: s => if c ≠ 37 then (readL s).map (c :: ·) else match s with
    | a :: b :: t => if 0 ≤ dgt a ∧ 0 ≤ dgt b then (readL t).map (byteOf a b :: ·) else none
    | _ => none
theorem readL_nil : readL [] = some [] := by rw [readL]
theorem readL_c {c : UInt8} {s : List UInt8} (h : c ≠ 37) : readL (c :: s) = (readL s).map (c :: ·) := by rw [readL.eq_def]; exact if_pos h
theorem readL_h (a b : UInt8) (t : List UInt8) : readL (37 :: a :: b :: t) = if 0 ≤ dgt a ∧ 0 ≤ dgt b then (readL t).map (byteOf a b :: ·) else none := by rw [readL.eq_def]; simp
theorem readL_short {s : List UInt8} (h : s.length ≤ 1) : readL (37 :: s) = none := by
  rw [readL.eq_def]
  match s, h with
  | [], _ => simp
  | [a], _ => simp
theorem readL_len : ∀ (m : Nat) (s t : List UInt8), s.length ≤ m → readL s = some t → t.length ≤ s.length
  | m, [], t, _, h => by rw [readL_nil] at h; cases h; simp
  | 0, c :: s, t, hm, h => by simp at hm
  | m + 1, c :: s, t, hm, h => by
    by_cases hc : c = 37
    · subst hc
      match s, hm, h with
      | [], _, h => rw [readL_short (by simp)] at h; cases h
      | [a], _, h => rw [readL_short (by simp)] at h; cases h
      | a :: b :: u, hm, h =>
        rw [readL_h] at h
        split at h
        · obtain ⟨v, hv, rfl⟩ := Option.map_eq_some_iff.1 h
          have := readL_len m u v (by simp at hm; omega) hv
          simp; omega
        · cases h
    · rw [readL_c hc] at h
      obtain ⟨v, hv, rfl⟩ := Option.map_eq_some_iff.1 h
      have := readL_len m s v (by simpa using hm) hv
      simp; omega
def rdQ (out : List UInt8) : Option (List UInt8) → (Unit × (Unit × Unit × Unit) × List UInt8 × Unit) ⊕ (List UInt8 × Bool × Unit)
  | none => .inr ([], false, ())
  | some t => .inl ((), ((), (), ()), out ++ t, ())
theorem rdQ_map (out : List UInt8) (x : UInt8) (o : Option (List UInt8)) : rdQ out (o.map (x :: ·)) = rdQ (out ++ [x]) o := by
  cases o with
  | none => rfl
  | some t => simp [rdQ]
def rrdR (out : List UInt8) : Option (List UInt8) → (List UInt8 × Unit) ⊕ (List UInt8 × Bool × Unit)
  | none => .inr ([], false, ())
  | some t => .inl (out ++ t, ())
theorem rrdR_map (out : List UInt8) (x : UInt8) (o : Option (List UInt8)) : rrdR out (o.map (x :: ·)) = rrdR (out ++ [x]) o := by
  cases o with
  | none => rfl
  | some t => simp [rrdR]
theorem byte_tab : ∀ a b : Fin 16, IntKind.u8.wrap (ior .i64 (shl .i64 ((a.val : Nat) : Int) 4) ((b.val : Nat) : Int)) = ((16 * a.val + b.val : Nat) : Int) := by decide +kernel
theorem byte_at {a b : UInt8} (ha : 0 ≤ dgt a) (hb : 0 ≤ dgt b) : IntKind.u8.wrap (ior .i64 (shl .i64 (dgt a) 4) (dgt b)) = ((16 * (dgt a).toNat + (dgt b).toNat : Nat) : Int) := by
  have h1 := dgt_le a
  have h2 := dgt_le b
  have := byte_tab ⟨(dgt a).toNat, by omega⟩ ⟨(dgt b).toNat, by omega⟩
  simp only [Int.toNat_of_nonneg ha, Int.toNat_of_nonneg hb] at this
  exact this
theorem rbyte_at {a b : UInt8} (ha : 0 ≤ dgt a) (hb : 0 ≤ dgt b) : IntKind.u8.wrap (IntKind.i64.wrap (IntKind.i64.wrap (dgt a * 16) + dgt b)) = ((16 * (dgt a).toNat + (dgt b).toNat : Nat) : Int) := by
  have h1 := dgt_le a
  have h2 := dgt_le b
  rw [wrap64 (dgt a * 16) (by omega) (by omega), wrap64 _ (by omega) (by omega), wrapB' _ (by omega)]
  omega
theorem add_nat (k j : Nat) (h : k + j ≤ 1000000) : IntKind.i64.wrap ((k : Int) + (j : Int)) = ((k + j : Nat) : Int) := by rw [wrap64] <;> omega
theorem add1 (k : Nat) (h : k ≤ 1000000) : IntKind.i64.wrap ((k : Int) + 1) = ((k + 1 : Nat) : Int) := next_nat k (by omega)
theorem add2 (k : Nat) (h : k ≤ 900000) : IntKind.i64.wrap ((k : Int) + 2) = ((k + 2 : Nat) : Int) := add_nat k 2 (by omega)
theorem read_loop (s : List UInt8) (hs : s.length ≤ 1000) : ∀ (m k : Nat) (out : List UInt8), s.length - k ≤ m → k ≤ s.length → out.length + (s.length - k) ≤ 5000 →
    TendsL M_canon_read_l0 (s, (), (k : Int), ((), (), ()), out, ()) (rdQ out (readL (s.drop k)))
  | m, k, out, hm, hk, ho => by
    by_cases hlt : k < s.length
    · have hx := idxN s k (k : Int) rfl hlt
      have hd := List.drop_eq_getElem_cons hlt
      cases m with
      | zero => omega
      | succ m =>
      by_cases hc : s[k] = 37
      · by_cases h2 : k + 2 < s.length
        · have hx1 := idxN s (k + 1) ((k + 1 : Nat) : Int) rfl (by omega)
          have hx2 := idxN s (k + 2) ((k + 2 : Nat) : Int) rfl h2
          have hd1 := List.drop_eq_getElem_cons (show k + 1 < s.length by omega)
          have hd2 := List.drop_eq_getElem_cons h2
          rw [hd, hd1, hd2, hc, readL_h]
          by_cases ha : 0 ≤ dgt s[k + 1]
          · by_cases hb : 0 ≤ dgt s[k + 2]
            · rw [if_pos ⟨ha, hb⟩, rdQ_map]
              refine TendsL.step (.of fun F => ?_) (read_loop s hs m (k + 3) (out ++ [byteOf s[k + 1] s[k + 2]]) (by omega) (by omega) (by simp; omega))
              unfold M_canon_read_l0
              refine (if_pos (by simp; omega)).trans ?_
              refine bindE (a := .inl (s, (), ((k + 2 : Nat) : Int), ((), (), ()), out ++ [byteOf s[k + 1] s[k + 2]], ())) ?_ ?_
              · refine bindE hx ?_
                rw [if_neg (by simp [hc])]
                refine bindE (a := (s, (), (k : Int), false, ((), (), ()), out, ())) ?_ (bindE (a := (s, (), (k : Int), false, ((), (), ()), out, ())) ?_ ?_)
                · rw [if_pos (by rw [add2 k (by omega)]; simp; omega)]
                  simp only [add1 k (by omega), hx1, Option.bind_some, digit_at]
                  rw [decide_eq_false (by omega)]
                · rw [if_pos rfl]
                  simp only [add2 k (by omega), hx2, Option.bind_some, digit_at]
                  rw [decide_eq_false (by omega)]
                · rw [if_neg (by simp)]
                  simp only [add1 k (by omega), add2 k (by omega), hx1, hx2, Option.bind_some, digit_at, byte_at ha hb, wbyte_eq F out _ (by omega), Int.toNat_natCast]
                  rfl
              · simp only [sumC]
                rw [add1 (k + 2) (by omega)]
            · rw [if_neg (by rintro ⟨_, h⟩; exact hb h)]
              refine TendsL.fin (.of fun F => ?_)
              unfold M_canon_read_l0
              refine (if_pos (by simp; omega)).trans ?_
              refine bindE (a := .inr ([], false, ())) ?_ rfl
              refine bindE hx ?_
              rw [if_neg (by simp [hc])]
              refine bindE (a := (s, (), (k : Int), false, ((), (), ()), out, ())) ?_ (bindE (a := (s, (), (k : Int), true, ((), (), ()), out, ())) ?_ (if_pos rfl))
              · rw [if_pos (by rw [add2 k (by omega)]; simp; omega)]
                simp only [add1 k (by omega), hx1, Option.bind_some, digit_at]
                rw [decide_eq_false (by omega)]
              · rw [if_pos rfl]
                simp only [add2 k (by omega), hx2, Option.bind_some, digit_at]
                rw [decide_eq_true (by omega)]
          · rw [if_neg (by rintro ⟨h, _⟩; exact ha h)]
            refine TendsL.fin (.of fun F => ?_)
            unfold M_canon_read_l0
            refine (if_pos (by simp; omega)).trans ?_
            refine bindE (a := .inr ([], false, ())) ?_ rfl
            refine bindE hx ?_
            rw [if_neg (by simp [hc])]
            refine bindE (a := (s, (), (k : Int), true, ((), (), ()), out, ())) ?_ (bindE (a := (s, (), (k : Int), true, ((), (), ()), out, ())) (if_neg (by simp)) (if_pos rfl))
            rw [if_pos (by rw [add2 k (by omega)]; simp; omega)]
            simp only [add1 k (by omega), hx1, Option.bind_some, digit_at]
            rw [decide_eq_true (by omega)]
        · rw [hd, hc, readL_short (by simp; omega)]
          refine TendsL.fin (.of fun F => ?_)
          unfold M_canon_read_l0
          refine (if_pos (by simp; omega)).trans ?_
          refine bindE (a := .inr ([], false, ())) ?_ rfl
          refine bindE hx ?_
          rw [if_neg (by simp [hc])]
          refine bindE (a := (s, (), (k : Int), true, ((), (), ()), out, ())) (if_neg ?_) (bindE (a := (s, (), (k : Int), true, ((), (), ()), out, ())) (if_neg (by simp)) (if_pos rfl))
          rw [add2 k (by omega)]
          simp
          omega
      · rw [hd, readL_c hc, rdQ_map]
        refine TendsL.step (.of fun F => ?_) (read_loop s hs m (k + 1) (out ++ [s[k]]) (by omega) (by omega) (by simp; omega))
        unfold M_canon_read_l0
        refine (if_pos (by simp; omega)).trans ?_
        refine bindE (a := .inl (s, (), (k : Int), ((), (), ()), out ++ [s[k]], ())) ?_ ?_
        · refine bindE hx ?_
          have hc' : ¬ ((s[k].toNat : Int) = 37) := fun h => hc (UInt8.toNat_inj.1 (by show s[k].toNat = 37; omega))
          rw [if_pos (by simpa using hc')]
          simp only [hx, Option.bind_some, wbyte_eq F out _ (by omega), byte_back]
        · simp only [sumC]
          rw [add1 k (by omega)]
    · have : k = s.length := by omega
      subst this
      rw [List.drop_eq_nil_of_le (Nat.le_refl _), readL_nil]
      refine TendsL.fin (.of fun F => ?_)
      unfold M_canon_read_l0
      refine (if_neg (by simp)).trans ?_
      simp [rdQ]
def readF (s : List UInt8) : List UInt8 × Bool := match readL s with
  | none => ([], false)
  | some t => (t, decide (t = []) || rightB t 60)
theorem readF_none {s : List UInt8} (h : readL s = none) : readF s = ([], false) := by unfold readF; rw [h]
theorem readF_some {s t : List UInt8} (h : readL s = some t) : readF s = (t, decide (t = []) || rightB t 60) := by unfold readF; rw [h]
theorem read_tends (s : List UInt8) (hs : s.length ≤ 1000) : Tends (fun F => M_canon_read F s) (readF s) := by
  unfold M_canon_read
  have hl := read_loop s hs _ 0 [] (Nat.le_refl _) (by omega) (by simp; omega)
  rw [List.drop_zero] at hl
  refine Tends.bind hl.run ?_
  cases hr : readL s with
  | none =>
    rw [readF_none hr]
    exact .ret _
  | some t =>
    rw [readF_some hr]
    simp only [rdQ, sumC, List.nil_append]
    refine Tends.bind (r := (t, ((), (), ()))) (.of fun F => rfl) ?_
    by_cases h0 : t = []
    · refine Tends.bind (r := (t, true, ())) (.of fun F => if_neg (by simp [h0])) ?_
      rw [decide_eq_true h0, Bool.true_or]
      exact .ret _
    · refine Tends.bind (r := (t, rightB t 60, ())) (Tends.pos (by simpa using h0) (Tends.bind (right_tends t 60) (.ret _))) ?_
      rw [decide_eq_false h0, Bool.false_or]
      exact .ret _
theorem rread_loop (s : List UInt8) (hs : s.length ≤ 1000) : ∀ (m k : Nat) (out : List UInt8), s.length - k ≤ m → k ≤ s.length → out.length + (s.length - k) ≤ 5000 →
    TendsL M_conciergeref05_read_l0 (s, out, (k : Int), ()) (rrdR out (readL (s.drop k)))
  | m, k, out, hm, hk, ho => by
    by_cases hlt : k < s.length
    · have hx := idxN s k (k : Int) rfl hlt
      have hd := List.drop_eq_getElem_cons hlt
      cases m with
      | zero => omega
      | succ m =>
      by_cases hc : s[k] = 37
      · by_cases h2 : k + 2 < s.length
        · have hx1 := idxN s (k + 1) ((k + 1 : Nat) : Int) rfl (by omega)
          have hx2 := idxN s (k + 2) ((k + 2 : Nat) : Int) rfl h2
          have hd1 := List.drop_eq_getElem_cons (show k + 1 < s.length by omega)
          have hd2 := List.drop_eq_getElem_cons h2
          rw [hd, hd1, hd2, hc, readL_h]
          by_cases ha : 0 ≤ dgt s[k + 1]
          · by_cases hb : 0 ≤ dgt s[k + 2]
            · rw [if_pos ⟨ha, hb⟩, rrdR_map]
              refine TendsL.step (.of fun F => ?_) (rread_loop s hs m (k + 3) (out ++ [byteOf s[k + 1] s[k + 2]]) (by omega) (by omega) (by simp; omega))
              unfold M_conciergeref05_read_l0
              refine (if_pos (by simp; omega)).trans ?_
              refine bindE (a := .inl (s, out ++ [byteOf s[k + 1] s[k + 2]], ((k + 2 : Nat) : Int), ())) ?_ ?_
              · refine bindE hx ?_
                rw [if_neg (by simp [hc])]
                refine bindE (a := (s, out, (k : Int), false, ())) ?_ (bindE (a := (s, out, (k : Int), false, ())) ?_ ?_)
                · rw [if_pos (by rw [add2 k (by omega)]; simp; omega)]
                  simp only [add1 k (by omega), hx1, Option.bind_some, rdigit_at]
                  rw [decide_eq_false (by omega)]
                · rw [if_pos rfl]
                  simp only [add2 k (by omega), hx2, Option.bind_some, rdigit_at]
                  rw [decide_eq_false (by omega)]
                · rw [if_neg (by simp)]
                  simp only [add1 k (by omega), add2 k (by omega), hx1, hx2, Option.bind_some, rdigit_at, rbyte_at ha hb, Int.toNat_natCast]
                  rw [if_pos (by simp; omega), Option.bind_some]
                  simp only [add2 k (by omega)]
                  rfl
              · simp only [sumC]
                rw [add1 (k + 2) (by omega)]
            · rw [if_neg (by rintro ⟨_, h⟩; exact hb h)]
              refine TendsL.fin (.of fun F => ?_)
              unfold M_conciergeref05_read_l0
              refine (if_pos (by simp; omega)).trans ?_
              refine bindE (a := .inr ([], false, ())) ?_ rfl
              refine bindE hx ?_
              rw [if_neg (by simp [hc])]
              refine bindE (a := (s, out, (k : Int), false, ())) ?_ (bindE (a := (s, out, (k : Int), true, ())) ?_ (if_pos rfl))
              · rw [if_pos (by rw [add2 k (by omega)]; simp; omega)]
                simp only [add1 k (by omega), hx1, Option.bind_some, rdigit_at]
                rw [decide_eq_false (by omega)]
              · rw [if_pos rfl]
                simp only [add2 k (by omega), hx2, Option.bind_some, rdigit_at]
                rw [decide_eq_true (by omega)]
          · rw [if_neg (by rintro ⟨h, _⟩; exact ha h)]
            refine TendsL.fin (.of fun F => ?_)
            unfold M_conciergeref05_read_l0
            refine (if_pos (by simp; omega)).trans ?_
            refine bindE (a := .inr ([], false, ())) ?_ rfl
            refine bindE hx ?_
            rw [if_neg (by simp [hc])]
            refine bindE (a := (s, out, (k : Int), true, ())) ?_ (bindE (a := (s, out, (k : Int), true, ())) (if_neg (by simp)) (if_pos rfl))
            rw [if_pos (by rw [add2 k (by omega)]; simp; omega)]
            simp only [add1 k (by omega), hx1, Option.bind_some, rdigit_at]
            rw [decide_eq_true (by omega)]
        · rw [hd, hc, readL_short (by simp; omega)]
          refine TendsL.fin (.of fun F => ?_)
          unfold M_conciergeref05_read_l0
          refine (if_pos (by simp; omega)).trans ?_
          refine bindE (a := .inr ([], false, ())) ?_ rfl
          refine bindE hx ?_
          rw [if_neg (by simp [hc])]
          refine bindE (a := (s, out, (k : Int), true, ())) (if_neg ?_) (bindE (a := (s, out, (k : Int), true, ())) (if_neg (by simp)) (if_pos rfl))
          rw [add2 k (by omega)]
          simp
          omega
      · rw [hd, readL_c hc, rrdR_map]
        refine TendsL.step (.of fun F => ?_) (rread_loop s hs m (k + 1) (out ++ [s[k]]) (by omega) (by omega) (by simp; omega))
        unfold M_conciergeref05_read_l0
        refine (if_pos (by simp; omega)).trans ?_
        refine bindE (a := .inl (s, out ++ [s[k]], (k : Int), ())) ?_ ?_
        · refine bindE hx ?_
          have hc' : ¬ ((s[k].toNat : Int) = 37) := fun h => hc (UInt8.toNat_inj.1 (by show s[k].toNat = 37; omega))
          rw [if_pos (by simpa using hc')]
          have hsub : sub s (k : Int) ((k + 1 : Nat) : Int) = some [s[k]] := by
            rw [subN s k (k + 1) (by omega) (by omega), hd, show k + 1 - k = 1 by omega]
            rfl
          refine bindE (a := [s[k]]) (by rw [add1 k (by omega)]; exact hsub) ?_
          rw [if_pos (by simp; omega)]
        · simp only [sumC]
          rw [add1 k (by omega)]
    · have : k = s.length := by omega
      subst this
      rw [List.drop_eq_nil_of_le (Nat.le_refl _), readL_nil]
      refine TendsL.fin (.of fun F => ?_)
      unfold M_conciergeref05_read_l0
      refine (if_neg (by simp)).trans ?_
      simp [rrdR]
theorem rread_tends (s : List UInt8) (hs : s.length ≤ 1000) : Tends (fun F => M_conciergeref05_read F s) (readF s) := by
  unfold M_conciergeref05_read
  have hl := rread_loop s hs _ 0 [] (Nat.le_refl _) (by omega) (by simp; omega)
  rw [List.drop_zero] at hl
  refine Tends.bind hl.run ?_
  cases hr : readL s with
  | none =>
    rw [readF_none hr]
    exact .ret _
  | some t =>
    have ht := readL_len _ s t (Nat.le_refl _) hr
    rw [readF_some hr]
    by_cases h0 : t = []
    · refine Tends.bind (r := (t, true, ())) (.of fun F => if_neg (by simp [h0])) ?_
      rw [decide_eq_true h0, Bool.true_or]
      exact .ret _
    · refine Tends.bind (r := (t, rightB t 60, ())) (Tends.pos (by simpa using h0) (Tends.bind (refRight_tends t (by omega) 60) (.ret _))) ?_
      rw [decide_eq_false h0, Bool.false_or]
      exact .ret _
/-! ### writing -/
def wr1 (c : UInt8) : List UInt8 := if plainB c = true then [c] else [37, hexU (c.toNat / 16), hexU (c.toNat % 16)]
def writeL (s : List UInt8) : List UInt8 := s.flatMap wr1
theorem wr1_len (c : UInt8) : (wr1 c).length ≤ 3 := by unfold wr1; split <;> simp
theorem writeL_len (s : List UInt8) : (writeL s).length ≤ 3 * s.length := by
  unfold writeL
  induction s with
  | nil => simp
  | cons c s ih => rw [List.flatMap_cons, List.length_append, List.length_cons]; have := wr1_len c; omega
theorem shr_tab : ∀ c : Fin 256, shr .u8 ((c.val : Nat) : Int) 4 = ((c.val / 16 : Nat) : Int) ∧ iand .u8 ((c.val : Nat) : Int) 15 = ((c.val % 16 : Nat) : Int) := by decide +kernel
theorem cwrite_loop (s : List UInt8) (hs : s.length ≤ 1000) : ∀ (m k : Nat) (out : List UInt8), k + m = s.length → out.length + 3 * m ≤ 50000 →
    TendsL M_canon_write_l0 (s, (), (s.length : Int), (k : Int), ((), (), ()), out, ()) ((), ((), (), ()), out ++ writeL (s.drop k), ())
  | 0, k, out, h, ho => by
    refine TendsL.fin (.of fun F => ?_)
    unfold M_canon_write_l0
    refine (if_neg (by simp; omega)).trans ?_
    rw [List.drop_eq_nil_of_le (by omega)]
    simp [writeL]
  | m + 1, k, out, h, ho => by
    have hk : k < s.length := by omega
    have hx := idxN s k (k : Int) rfl hk
    have hw := wr1_len s[k]
    rw [List.drop_eq_getElem_cons hk]
    have e : out ++ writeL (s[k] :: s.drop (k + 1)) = (out ++ wr1 s[k]) ++ writeL (s.drop (k + 1)) := by unfold writeL; rw [List.flatMap_cons, List.append_assoc]
    rw [e]
    refine TendsL.step (.of fun F => ?_) (cwrite_loop s hs m (k + 1) (out ++ wr1 s[k]) (by omega) (by simp; omega))
    unfold M_canon_write_l0
    refine (if_pos (by simp; omega)).trans ?_
    refine bindE (a := (s, (), (s.length : Int), (k : Int), ((), (), ()), out ++ wr1 s[k], ())) ?_ ?_
    · refine bindE hx (bindE (plain_at F s[k]) ?_)
      cases hp : plainB s[k]
      · rw [if_neg (by simp)]
        have ht := shr_tab ⟨s[k].toNat, s[k].toNat_lt⟩
        have hn : s[k].toNat < 256 := s[k].toNat_lt
        simp only at ht
        simp only [wbyte_eq F out _ (by omega), Option.bind_some, hx, ht.1, ht.2, great_at _ (show s[k].toNat / 16 < 16 by omega), great_at _ (show s[k].toNat % 16 < 16 by omega)]
        rw [wbyte_eq F _ _ (by simp; omega)]
        simp only [Option.bind_some]
        rw [wbyte_eq F _ _ (by simp; omega)]
        simp only [Option.bind_some, byte_back]
        unfold wr1
        rw [hp, if_neg (by simp)]
        simp
      · rw [if_pos rfl]
        simp only [hx, Option.bind_some, wbyte_eq F out _ (by omega), byte_back]
        unfold wr1
        rw [hp, if_pos rfl]
    · simp only
      rw [add1 k (by omega)]
theorem cwrite_tends (s : List UInt8) (hs : s.length ≤ 1000) : Tends (fun F => M_canon_write F s) (writeL s) := by
  unfold M_canon_write
  have hl := cwrite_loop s hs s.length 0 [] (by omega) (by simp; omega)
  rw [List.drop_zero, List.nil_append] at hl
  exact Tends.bind hl.run (.of fun F => rfl)
theorem rwrite_loop (s : List UInt8) (hs : s.length ≤ 1000) : ∀ (m k : Nat) (out : List UInt8), k + m = s.length → out.length + 3 * m ≤ 50000 →
    TendsL M_conciergeref05_write_l0 (s, out, (k : Int), ()) (out ++ writeL (s.drop k), ())
  | 0, k, out, h, ho => by
    refine TendsL.fin (.of fun F => ?_)
    unfold M_conciergeref05_write_l0
    refine (if_neg (by simp; omega)).trans ?_
    rw [List.drop_eq_nil_of_le (by omega)]
    simp [writeL]
  | m + 1, k, out, h, ho => by
    have hk : k < s.length := by omega
    have hx := idxN s k (k : Int) rfl hk
    have hw := wr1_len s[k]
    have hd := List.drop_eq_getElem_cons hk
    have hsub : sub s (k : Int) ((k + 1 : Nat) : Int) = some [s[k]] := by
      rw [subN s k (k + 1) (by omega) (by omega), hd, show k + 1 - k = 1 by omega]
      rfl
    rw [hd]
    have e : out ++ writeL (s[k] :: s.drop (k + 1)) = (out ++ wr1 s[k]) ++ writeL (s.drop (k + 1)) := by unfold writeL; rw [List.flatMap_cons, List.append_assoc]
    rw [e]
    refine TendsL.step (.of fun F => ?_) (rwrite_loop s hs m (k + 1) (out ++ wr1 s[k]) (by omega) (by simp; omega))
    unfold M_conciergeref05_write_l0
    refine (if_pos (by simp; omega)).trans ?_
    refine bindE (a := (s, out ++ wr1 s[k], (k : Int), ())) ?_ ?_
    · refine bindE hx ?_
      have hn : s[k].toNat < 256 := s[k].toNat_lt
      have hI : plainB s[k] = plainN s[k].toNat := rfl
      have hW : wr1 s[k] = if plainB s[k] = true then [s[k]] else [37, hexU (s[k].toNat / 16), hexU (s[k].toNat % 16)] := rfl
      rw [hW, hI]
      generalize hg : s[k].toNat = n at hn
      obtain ⟨b1, h1⟩ : ∃ b, b = decide (65 ≤ n ∧ n ≤ 90) := ⟨_, rfl⟩
      obtain ⟨b2, h2⟩ : ∃ b, b = (b1 || decide (97 ≤ n ∧ n ≤ 122)) := ⟨_, rfl⟩
      obtain ⟨b3, h3⟩ : ∃ b, b = (b2 || decide (48 ≤ n ∧ n ≤ 57)) := ⟨_, rfl⟩
      obtain ⟨b4, h4⟩ : ∃ b, b = (b3 || decide ((n : Int) = 45)) := ⟨_, rfl⟩
      obtain ⟨b5, h5⟩ : ∃ b, b = (b4 || decide ((n : Int) = 46)) := ⟨_, rfl⟩
      obtain ⟨b6, h6⟩ : ∃ b, b = (b5 || decide ((n : Int) = 95)) := ⟨_, rfl⟩
      obtain ⟨b7, h7⟩ : ∃ b, b = (b6 || decide ((n : Int) = 126)) := ⟨_, rfl⟩
      have hp : plainN n = b7 := by
        unfold plainN
        rw [h7, h6, h5, h4, h3, h2, h1, Bool.eq_iff_iff]
        simp only [decide_eq_true_eq, Bool.or_eq_true]
        omega
      have dn : ∀ a b : Nat, (if decide (((a : Nat) : Int) ≤ (n : Int)) = true then some (s, out, (k : Int), (n : Int), decide ((n : Int) ≤ ((b : Nat) : Int)), ()) else some (s, out, (k : Int), (n : Int), false, ())) = some (s, out, (k : Int), (n : Int), decide (a ≤ n ∧ n ≤ b), ()) := by
        intro a b
        by_cases ha : a ≤ n
        · rw [if_pos (decide_eq_true (by omega))]
          simp only [Option.some.injEq, Prod.mk.injEq, true_and, and_true, decide_eq_decide]
          omega
        · rw [if_neg (by simp; omega), decide_eq_false (by omega)]
      refine bindE (a := (s, out, (k : Int), (n : Int), b1, ())) (by rw [h1]; exact dn 65 90) ?_
      refine bindE (a := (s, out, (k : Int), (n : Int), b2, ())) (by cases b1 <;> rw [h2] <;> first | exact (if_pos rfl).trans (dn 97 122) | exact if_neg (by simp)) ?_
      refine bindE (a := (s, out, (k : Int), (n : Int), b3, ())) (by cases b2 <;> rw [h3] <;> first | exact (if_pos rfl).trans (dn 48 57) | exact if_neg (by simp)) ?_
      refine bindE (a := (s, out, (k : Int), (n : Int), b4, ())) (by cases b3 <;> rw [h4] <;> first | exact if_pos rfl | exact if_neg (by simp)) ?_
      refine bindE (a := (s, out, (k : Int), (n : Int), b5, ())) (by cases b4 <;> rw [h5] <;> first | exact if_pos rfl | exact if_neg (by simp)) ?_
      refine bindE (a := (s, out, (k : Int), (n : Int), b6, ())) (by cases b5 <;> rw [h6] <;> first | exact if_pos rfl | exact if_neg (by simp)) ?_
      refine bindE (a := (s, out, (k : Int), (n : Int), b7, ())) (by cases b6 <;> rw [h7] <;> first | exact if_pos rfl | exact if_neg (by simp)) ?_
      rw [hp]
      cases b7
      · simp only [Bool.false_eq_true, if_false]
        rw [if_pos (by simp; omega)]
        have w1 : IntKind.i64.wrap (n : Int) = (n : Int) := wrap64 _ (by omega) (by omega)
        have w2 : IntKind.i64.wrap ((n : Int).tdiv 16) = ((n / 16 : Nat) : Int) := by
          rw [Int.tdiv_eq_ediv_of_nonneg (by omega), wrap64 _ (by omega) (by omega)]
          omega
        have w3 : (n : Int).tmod 16 = ((n % 16 : Nat) : Int) := by
          rw [Int.tmod_eq_emod_of_nonneg (by omega)]
          omega
        simp only [w1, w2, w3, hex_at F _ (show n / 16 < 16 by omega), hex_at F _ (show n % 16 < 16 by omega), Option.bind_some]
        rw [if_pos (by simp; omega), if_pos (by simp; omega)]
        simp
      · rw [if_pos rfl, if_pos rfl]
        refine bindE (a := [s[k]]) (by rw [add1 k (by omega)]; exact hsub) ?_
        rw [if_pos (by simp; omega)]
    · simp only
      rw [add1 k (by omega)]
theorem rwrite_tends (s : List UInt8) (hs : s.length ≤ 1000) : Tends (fun F => M_conciergeref05_write F s) (writeL s) := by
  unfold M_conciergeref05_write
  have hl := rwrite_loop s hs s.length 0 [] (by omega) (by simp; omega)
  rw [List.drop_zero, List.nil_append] at hl
  exact Tends.bind hl.run (.of fun F => rfl)
end Go.Vm
