/- Letters, digits, plain bytes, methods and keys: plain. No condition. -/
import Derived.Test.YtgeafoacmnlioaaDoorFcanon
import Derived.Test.YtgeafoacmnlioaaDoorFref5
import Derived.Test.YtgeafoacmnlioaaDoorPright
import Derived.Test.YtgeafoacmnlioaaDoorPbase
namespace Go.Vm
open Go Go.Proofs
set_option linter.unusedVariables false
def keyR (r : Int) : Bool := decide (sortI r = 2 ∨ sortI r = 3 ∨ r = 45 ∨ r = 95 ∨ r = 46)
def keyB (l : List Int) : Unit ⊕ (Bool × Unit) := if l.all keyR = true then .inl () else .inr (false, ())
def keyF (s : List UInt8) : Bool := if s = [] ∨ 24 < s.length then false else ((signs s).map (·.1)).all keyR
theorem keyB_t {n : Int} {l : List Int} (h : keyR n = true) : keyB (n :: l) = keyB l := by
  unfold keyB
  rw [List.all_cons, h, Bool.true_and]
theorem keyB_f {n : Int} {l : List Int} (h : ¬ keyR n = true) : keyB (n :: l) = .inr (false, ()) := by
  unfold keyB
  rw [List.all_cons, Bool.eq_false_iff.2 h, Bool.false_and]
  rfl
theorem key_step (F : Nat) (s : List UInt8) (p : Nat) (hp : p < s.length) : M_canon_Key_l0 F ((), (s, p), ()) = if keyR (runeAt s p) = true then some (.inl ((), (s, p + runeLen s p), ())) else some (.inr (.inr (false, ()))) := by
  unfold M_canon_Key_l0
  refine (if_pos (by simpa using hp)).trans ?_
  simp only [sort_eq, Option.bind_some]
  generalize runeAt s p = r
  unfold keyR
  by_cases h2 : sortI r = 2
  · simp [h2]
  by_cases h3 : sortI r = 3
  · simp [h3]
  by_cases h45 : r = 45
  · subst h45; simp [h2, h3]
  by_cases h95 : r = 95
  · subst h95; simp [h2, h3]
  by_cases h46 : r = 46
  · subst h46; simp [h2, h3]
  simp [h2, h3, h45, h95, h46]
theorem key_loop (s : List UInt8) (p : Nat) (hp : p ≤ s.length) : TendsL M_canon_Key_l0 ((), (s, p), ()) (keyB ((signs (s.drop p)).map (·.1))) := by
  suffices hh : ∀ n p, p ≤ s.length → s.length - p ≤ n → TendsL M_canon_Key_l0 ((), (s, p), ()) (keyB ((signs (s.drop p)).map (·.1))) from hh _ p hp (Nat.le_refl _)
  intro n
  induction n with
  | zero =>
    intro p hp hn
    refine TendsL.fin (.of fun F => ?_)
    unfold M_canon_Key_l0
    refine (if_neg (by simp; omega)).trans ?_
    rw [List.drop_eq_nil_of_le (by omega), signs_nil]
    rfl
  | succ n ih =>
    intro p hp hn
    by_cases hlt : p < s.length
    · have hr := runeAt_eq s p
      have hl := runeLen_eq s p
      have hpos := Go.Lib.decodeL_le (s.drop p)
      have h1 := decodeL_pos (s.drop p)
      rw [signs_cons (drop_ne hlt), List.map_cons]
      by_cases hk : keyR ((Go.Lib.decodeL (s.drop p)).1 : Int) = true
      · have hb : keyB (((Go.Lib.decodeL (s.drop p)).1 : Int) :: (signs ((s.drop p).drop (Go.Lib.decodeL (s.drop p)).2)).map (·.1)) = keyB ((signs (s.drop (p + (Go.Lib.decodeL (s.drop p)).2))).map (·.1)) := by
          rw [keyB_t hk, drop_next]
        rw [hb]
        refine TendsL.step (.of fun F => ?_) (ih (p + (Go.Lib.decodeL (s.drop p)).2) (next_le hlt) (by omega))
        rw [key_step F s p hlt, hr, hl, if_pos hk]
      · refine TendsL.fin (.of fun F => ?_)
        rw [key_step F s p hlt, hr, if_neg hk, keyB_f hk]
    · have : p = s.length := by omega
      subst this
      refine TendsL.fin (.of fun F => ?_)
      unfold M_canon_Key_l0
      refine (if_neg (by simp)).trans ?_
      rw [List.drop_eq_nil_of_le (by omega), signs_nil]
      rfl
theorem keyF_out {s : List UInt8} (h : s = [] ∨ 24 < s.length) : keyF s = false := by unfold keyF; rw [if_pos h]
theorem keyF_in {s : List UInt8} (h : ¬ (s = [] ∨ 24 < s.length)) : keyF s = ((signs s).map (·.1)).all keyR := by unfold keyF; rw [if_neg h]
theorem key_tends (s : List UInt8) : Tends (fun F => M_canon_Key F s) (keyF s) := by
  unfold M_canon_Key
  by_cases h0 : s = []
  · rw [keyF_out (.inl h0)]
    refine Tends.bind (r := (s, true, ())) (.of fun F => if_neg (by simpa using h0)) (Tends.pos rfl (.ret _))
  by_cases h8 : 24 < s.length
  · rw [keyF_out (.inr h8)]
    refine Tends.bind (r := (s, true, ())) (.of fun F => (if_pos (by simpa using h0)).trans ?_) (Tends.pos rfl (.ret _))
    rw [decide_eq_true (by omega)]
  rw [keyF_in (by rintro (h | h) <;> contradiction)]
  refine Tends.bind (r := (s, false, ())) (.of fun F => (if_pos (by simpa using h0)).trans ?_) (Tends.neg (by simp) ?_)
  · rw [decide_eq_false (by omega)]
  have hl := key_loop s 0 (by omega)
  rw [List.drop_zero] at hl
  refine Tends.bind hl.run ?_
  unfold keyB
  cases hb : ((signs s).map (·.1)).all keyR
  · exact .ret _
  · exact .ret _
theorem rkey_step (F : Nat) (ns : List Int) (hn : ns.length ≤ 1000000) (k : Nat) (hk : k < ns.length) : M_conciergeref05_Key_l0 F (ns, (k : Int), ()) = if keyR ns[k] = true then some (.inl (ns, ((k + 1 : Nat) : Int), ())) else some (.inr (.inr (false, ()))) := by
  have hx := idxN ns k (k : Int) rfl hk
  unfold M_conciergeref05_Key_l0
  refine (if_pos (by simp; omega)).trans ?_
  simp only [hx, refSort_eq, Option.bind_some]
  generalize ns[k] = r at hx
  unfold keyR
  by_cases h2 : sortI r = 2
  · simp [h2, next_nat k (by omega)]
  by_cases h3 : sortI r = 3
  · simp [h3, next_nat k (by omega)]
  by_cases h45 : r = 45
  · subst h45; simp [h2, h3, hx, next_nat k (by omega)]
  by_cases h95 : r = 95
  · subst h95; simp [h2, h3, hx, next_nat k (by omega)]
  by_cases h46 : r = 46
  · subst h46; simp [h2, h3, hx, next_nat k (by omega)]
  simp [h2, h3, h45, h95, h46, hx]
theorem rkey_loop (ns : List Int) (hn : ns.length ≤ 1000000) : ∀ (m k : Nat), k + m = ns.length → TendsL M_conciergeref05_Key_l0 (ns, (k : Int), ()) (keyB (ns.drop k))
  | 0, k, h => by
    refine TendsL.fin (.of fun F => ?_)
    unfold M_conciergeref05_Key_l0
    refine (if_neg (by simp; omega)).trans ?_
    rw [List.drop_eq_nil_of_le (by omega)]
    rfl
  | m + 1, k, h => by
    have hk : k < ns.length := by omega
    rw [List.drop_eq_getElem_cons hk]
    by_cases hr : keyR ns[k] = true
    · rw [keyB_t hr]
      refine TendsL.step (.of fun F => ?_) (rkey_loop ns hn m (k + 1) (by omega))
      rw [rkey_step F ns hn k hk, if_pos hr]
    · refine TendsL.fin (.of fun F => ?_)
      rw [rkey_step F ns hn k hk, if_neg hr, keyB_f hr]
theorem rkey_tends (s : List UInt8) : Tends (fun F => M_conciergeref05_Key F s) (keyF s) := by
  unfold M_conciergeref05_Key
  by_cases h0 : s = []
  · rw [keyF_out (.inl h0)]
    refine Tends.bind (r := (s, true, ())) (.of fun F => if_neg (by simp [h0])) (Tends.pos rfl (.ret _))
  have hl0 : 0 < s.length := List.length_pos_iff.2 h0
  by_cases h8 : 24 < s.length
  · rw [keyF_out (.inr h8)]
    refine Tends.bind (r := (s, true, ())) (.of fun F => (if_pos (by simp; omega)).trans ?_) (Tends.pos rfl (.ret _))
    rw [decide_eq_true (by omega)]
  rw [keyF_in (by rintro (h | h) <;> contradiction)]
  refine Tends.bind (r := (s, false, ())) (.of fun F => (if_pos (by simp; omega)).trans ?_) (Tends.neg (by simp) ?_)
  · rw [decide_eq_false (by omega)]
  have hsl := signs_len s
  refine Tends.bind (signs_tends s (by omega)) ?_
  have hl := rkey_loop ((signs s).map (·.1)) (by simp; omega) _ 0 (Nat.zero_add _)
  rw [List.drop_zero] at hl
  refine Tends.bind hl.run ?_
  unfold keyB
  cases hb : ((signs s).map (·.1)).all keyR
  · exact .ret _
  · exact .ret _
end Go.Vm
