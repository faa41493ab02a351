/- Reading and writing the parts of a path: plain. No condition. -/
import Derived.Test.YtihpjgcbmipdbaaGreatDoorPk1
namespace Go.Vm
open Go Go.Proofs
set_option linter.unusedVariables false
def byteOf (a b : UInt8) : UInt8 := UInt8.ofNat (16 * (dgt a).toNat + (dgt b).toNat)
def readL : List UInt8 → Option (List UInt8)
 | [] => some []
 | c :: s => if c ≠ 37 then (readL s).map (c :: ·) else match s with
  | a :: b :: t => if 0 ≤ dgt a ∧ 0 ≤ dgt b then (readL t).map (byteOf a b :: ·) else none
  | _ => none
theorem readL_nil : readL [] = some [] := by rw [readL]
theorem readL_c {c : UInt8} {s : List UInt8} (h : c ≠ 37) : readL (c :: s) = (readL s).map (c :: ·) := by rw [readL.eq_def]; exact if_pos h
theorem readL_h (a b : UInt8) (t : List UInt8) : readL (37 :: a :: b :: t) = if 0 ≤ dgt a ∧ 0 ≤ dgt b then (readL t).map (byteOf a b :: ·) else none := by rw [readL.eq_def]; simp
theorem readL_short {s : List UInt8} (h : s.length ≤ 1) : readL (37 :: s) = none := by
 rw [readL.eq_def]
 match s, h with
 | [], _ => simp
 | [a], _ => simp
theorem readL_len : ∀ (m : Nat) (s t : List UInt8), s.length ≤ m → readL s = some t → t.length ≤ s.length
 | m, [], t, _, h => by rw [readL_nil] at h; cases h; simp
 | 0, c :: s, t, hm, h => by simp at hm
 | m + 1, c :: s, t, hm, h => by
  by_cases hc : c = 37
  ·subst hc
   match s, hm, h with
   | [], _, h => rw [readL_short (by simp)] at h; cases h
   | [a], _, h => rw [readL_short (by simp)] at h; cases h
   | a :: b :: u, hm, h =>
    rw [readL_h] at h
    split at h
    ·obtain ⟨v, hv, rfl⟩ := Option.map_eq_some_iff.1 h
     have := readL_len m u v (by simp at hm; omega) hv
     simp; omega
    ·cases h
  ·rw [readL_c hc] at h
   obtain ⟨v, hv, rfl⟩ := Option.map_eq_some_iff.1 h
   have := readL_len m s v (by simpa using hm) hv
   simp; omega
def rdQ (out : List UInt8) : Option (List UInt8) → (Unit × (Unit × Unit × Unit) × List UInt8 × Unit) ⊕ (List UInt8 × Bool × Unit)
 | none => .inr ([], false, ())
 | some t => .inl ((), ((), (), ()), out ++ t, ())
theorem rdQ_map (out : List UInt8) (x : UInt8) (o : Option (List UInt8)) : rdQ out (o.map (x :: ·)) = rdQ (out ++ [x]) o := by
 cases o with
 | none => rfl
 | some t => simp [rdQ]
theorem byte_tab : ∀ a b : Fin 16, IntKind.u8.wrap (ior .i64 (shl .i64 ((a.val : Nat) : Int) 4) ((b.val : Nat) : Int)) = ((16 * a.val + b.val : Nat) : Int) := by decide +kernel
theorem byte_at {a b : UInt8} (ha : 0 ≤ dgt a) (hb : 0 ≤ dgt b) : IntKind.u8.wrap (ior .i64 (shl .i64 (dgt a) 4) (dgt b)) = ((16 * (dgt a).toNat + (dgt b).toNat : Nat) : Int) := by
 have h1 := dgt_le a
 have h2 := dgt_le b
 have := byte_tab ⟨(dgt a).toNat, by omega⟩ ⟨(dgt b).toNat, by omega⟩
 simp only [Int.toNat_of_nonneg ha, Int.toNat_of_nonneg hb] at this
 exact this
theorem add_nat (k j : Nat) (h : k + j ≤ 1000000) : IntKind.i64.wrap ((k : Int) + (j : Int)) = ((k + j : Nat) : Int) := by rw [wrap64] <;> omega
theorem add1 (k : Nat) (h : k ≤ 1000000) : IntKind.i64.wrap ((k : Int) + 1) = ((k + 1 : Nat) : Int) := next_nat k (by omega)
theorem add2 (k : Nat) (h : k ≤ 900000) : IntKind.i64.wrap ((k : Int) + 2) = ((k + 2 : Nat) : Int) := add_nat k 2 (by omega)
theorem read_loop (s : List UInt8) (hs : s.length ≤ 1000) : ∀ (m k : Nat) (out : List UInt8), s.length - k ≤ m → k ≤ s.length → out.length + (s.length - k) ≤ 5000 →
  TendsL M_canon_read_l0 (s, (), (k : Int), ((), (), ()), out, ()) (rdQ out (readL (s.drop k)))
 | m, k, out, hm, hk, ho => by
  by_cases hlt : k < s.length
  ·have hx := idxN s k (k : Int) rfl hlt
   have hd := List.drop_eq_getElem_cons hlt
   cases m with
   | zero => omega
   | succ m =>
   by_cases hc : s[k] = 37
   ·by_cases h2 : k + 2 < s.length
    ·have hx1 := idxN s (k + 1) ((k + 1 : Nat) : Int) rfl (by omega)
     have hx2 := idxN s (k + 2) ((k + 2 : Nat) : Int) rfl h2
     have hd1 := List.drop_eq_getElem_cons (show k + 1 < s.length by omega)
     have hd2 := List.drop_eq_getElem_cons h2
     rw [hd, hd1, hd2, hc, readL_h]
     by_cases ha : 0 ≤ dgt s[k + 1]
     ·by_cases hb : 0 ≤ dgt s[k + 2]
      ·rw [if_pos ⟨ha, hb⟩, rdQ_map]
       refine TendsL.step (.of fun F => ?_) (read_loop s hs m (k + 3) (out ++ [byteOf s[k + 1] s[k + 2]]) (by omega) (by omega) (by simp; omega))
       unfold M_canon_read_l0
       refine (if_pos (by simp; omega)).trans ?_
       refine bindE (a := .inl (s, (), ((k + 2 : Nat) : Int), ((), (), ()), out ++ [byteOf s[k + 1] s[k + 2]], ())) ?_ ?_
       ·refine bindE hx ?_
        rw [if_neg (by simp [hc])]
        refine bindE (a := (s, (), (k : Int), false, ((), (), ()), out, ())) ?_ (bindE (a := (s, (), (k : Int), false, ((), (), ()), out, ())) ?_ ?_)
        ·rw [if_pos (by rw [add2 k (by omega)]; simp; omega)]
         simp only [add1 k (by omega), hx1, Option.bind_some, digit_at]
         rw [decide_eq_false (by omega)]
        ·rw [if_pos rfl]
         simp only [add2 k (by omega), hx2, Option.bind_some, digit_at]
         rw [decide_eq_false (by omega)]
        ·rw [if_neg (by simp)]
         simp only [add1 k (by omega), add2 k (by omega), hx1, hx2, Option.bind_some, digit_at, byte_at ha hb, wbyte_eq F out _ (by omega), Int.toNat_natCast]
         rfl
       ·simp only [sumC]
        rw [add1 (k + 2) (by omega)]
      ·rw [if_neg (by rintro ⟨_, h⟩; exact hb h)]
       refine TendsL.fin (.of fun F => ?_)
       unfold M_canon_read_l0
       refine (if_pos (by simp; omega)).trans ?_
       refine bindE (a := .inr ([], false, ())) ?_ rfl
       refine bindE hx ?_
       rw [if_neg (by simp [hc])]
       refine bindE (a := (s, (), (k : Int), false, ((), (), ()), out, ())) ?_ (bindE (a := (s, (), (k : Int), true, ((), (), ()), out, ())) ?_ (if_pos rfl))
       ·rw [if_pos (by rw [add2 k (by omega)]; simp; omega)]
        simp only [add1 k (by omega), hx1, Option.bind_some, digit_at]
        rw [decide_eq_false (by omega)]
       ·rw [if_pos rfl]
        simp only [add2 k (by omega), hx2, Option.bind_some, digit_at]
        rw [decide_eq_true (by omega)]
     ·rw [if_neg (by rintro ⟨h, _⟩; exact ha h)]
      refine TendsL.fin (.of fun F => ?_)
      unfold M_canon_read_l0
      refine (if_pos (by simp; omega)).trans ?_
      refine bindE (a := .inr ([], false, ())) ?_ rfl
      refine bindE hx ?_
      rw [if_neg (by simp [hc])]
      refine bindE (a := (s, (), (k : Int), true, ((), (), ()), out, ())) ?_ (bindE (a := (s, (), (k : Int), true, ((), (), ()), out, ())) (if_neg (by simp)) (if_pos rfl))
      rw [if_pos (by rw [add2 k (by omega)]; simp; omega)]
      simp only [add1 k (by omega), hx1, Option.bind_some, digit_at]
      rw [decide_eq_true (by omega)]
    ·rw [hd, hc, readL_short (by simp; omega)]
     refine TendsL.fin (.of fun F => ?_)
     unfold M_canon_read_l0
     refine (if_pos (by simp; omega)).trans ?_
     refine bindE (a := .inr ([], false, ())) ?_ rfl
     refine bindE hx ?_
     rw [if_neg (by simp [hc])]
     refine bindE (a := (s, (), (k : Int), true, ((), (), ()), out, ())) (if_neg ?_) (bindE (a := (s, (), (k : Int), true, ((), (), ()), out, ())) (if_neg (by simp)) (if_pos rfl))
     rw [add2 k (by omega)]
     simp
     omega
   ·rw [hd, readL_c hc, rdQ_map]
    refine TendsL.step (.of fun F => ?_) (read_loop s hs m (k + 1) (out ++ [s[k]]) (by omega) (by omega) (by simp; omega))
    unfold M_canon_read_l0
    refine (if_pos (by simp; omega)).trans ?_
    refine bindE (a := .inl (s, (), (k : Int), ((), (), ()), out ++ [s[k]], ())) ?_ ?_
    ·refine bindE hx ?_
     have hc' : ¬ ((s[k].toNat : Int) = 37) := fun h => hc (UInt8.toNat_inj.1 (by show s[k].toNat = 37; omega))
     rw [if_pos (by simpa using hc')]
     simp only [hx, Option.bind_some, wbyte_eq F out _ (by omega), byte_back]
    ·simp only [sumC]
     rw [add1 k (by omega)]
  ·have : k = s.length := by omega
   subst this
   rw [List.drop_eq_nil_of_le (Nat.le_refl _), readL_nil]
   refine TendsL.fin (.of fun F => ?_)
   unfold M_canon_read_l0
   refine (if_neg (by simp)).trans ?_
   simp [rdQ]
def readF (s : List UInt8) : List UInt8 × Bool := match readL s with
 | none => ([], false)
 | some t => (t, decide (t = []) || rightB t 60)
theorem readF_none {s : List UInt8} (h : readL s = none) : readF s = ([], false) := by unfold readF; rw [h]
theorem readF_some {s t : List UInt8} (h : readL s = some t) : readF s = (t, decide (t = []) || rightB t 60) := by unfold readF; rw [h]
theorem read_tends (s : List UInt8) (hs : s.length ≤ 1000) : Tends (fun F => M_canon_read F s) (readF s) := by
 unfold M_canon_read
 have hl := read_loop s hs _ 0 [] (Nat.le_refl _) (by omega) (by simp; omega)
 rw [List.drop_zero] at hl
 refine Tends.bind hl.run ?_
 cases hr : readL s with
 | none =>
  rw [readF_none hr]
  exact .ret _
 | some t =>
  rw [readF_some hr]
  simp only [rdQ, sumC, List.nil_append]
  refine Tends.bind (r := (t, ((), (), ()))) (.of fun F => rfl) ?_
  by_cases h0 : t = []
  ·refine Tends.bind (r := (t, true, ())) (.of fun F => if_neg (by simp [h0])) ?_
   rw [decide_eq_true h0, Bool.true_or]
   exact .ret _
  ·refine Tends.bind (r := (t, rightB t 60, ())) (Tends.pos (by simpa using h0) (Tends.bind (right_tends t 60) (.ret _))) ?_
   rw [decide_eq_false h0, Bool.false_or]
   exact .ret _
def wr1 (c : UInt8) : List UInt8 := if plainB c = true then [c] else [37, hexU (c.toNat / 16), hexU (c.toNat % 16)]
def writeL (s : List UInt8) : List UInt8 := s.flatMap wr1
theorem wr1_len (c : UInt8) : (wr1 c).length ≤ 3 := by unfold wr1; split <;> simp
theorem writeL_len (s : List UInt8) : (writeL s).length ≤ 3 * s.length := by
 unfold writeL
 induction s with
 | nil => simp
 | cons c s ih => rw [List.flatMap_cons, List.length_append, List.length_cons]; have := wr1_len c; omega
theorem shr_tab : ∀ c : Fin 256, shr .u8 ((c.val : Nat) : Int) 4 = ((c.val / 16 : Nat) : Int) ∧ iand .u8 ((c.val : Nat) : Int) 15 = ((c.val % 16 : Nat) : Int) := by decide +kernel
theorem cwrite_loop (s : List UInt8) (hs : s.length ≤ 1000) : ∀ (m k : Nat) (out : List UInt8), k + m = s.length → out.length + 3 * m ≤ 50000 →
  TendsL M_canon_write_l0 (s, (), (s.length : Int), (k : Int), ((), (), ()), out, ()) ((), ((), (), ()), out ++ writeL (s.drop k), ())
 | 0, k, out, h, ho => by
  refine TendsL.fin (.of fun F => ?_)
  unfold M_canon_write_l0
  refine (if_neg (by simp; omega)).trans ?_
  rw [List.drop_eq_nil_of_le (by omega)]
  simp [writeL]
 | m + 1, k, out, h, ho => by
  have hk : k < s.length := by omega
  have hx := idxN s k (k : Int) rfl hk
  have hw := wr1_len s[k]
  rw [List.drop_eq_getElem_cons hk]
  have e : out ++ writeL (s[k] :: s.drop (k + 1)) = (out ++ wr1 s[k]) ++ writeL (s.drop (k + 1)) := by unfold writeL; rw [List.flatMap_cons, List.append_assoc]
  rw [e]
  refine TendsL.step (.of fun F => ?_) (cwrite_loop s hs m (k + 1) (out ++ wr1 s[k]) (by omega) (by simp; omega))
  unfold M_canon_write_l0
  refine (if_pos (by simp; omega)).trans ?_
  refine bindE (a := (s, (), (s.length : Int), (k : Int), ((), (), ()), out ++ wr1 s[k], ())) ?_ ?_
  ·refine bindE hx (bindE (plain_at F s[k]) ?_)
   cases hp : plainB s[k]
   ·rw [if_neg (by simp)]
    have ht := shr_tab ⟨s[k].toNat, s[k].toNat_lt⟩
    have hn : s[k].toNat < 256 := s[k].toNat_lt
    simp only at ht
    simp only [wbyte_eq F out _ (by omega), Option.bind_some, hx, ht.1, ht.2, great_at _ (show s[k].toNat / 16 < 16 by omega), great_at _ (show s[k].toNat % 16 < 16 by omega)]
    rw [wbyte_eq F _ _ (by simp; omega)]
    simp only [Option.bind_some]
    rw [wbyte_eq F _ _ (by simp; omega)]
    simp only [Option.bind_some, byte_back]
    unfold wr1
    rw [hp, if_neg (by simp)]
    simp
   ·rw [if_pos rfl]
    simp only [hx, Option.bind_some, wbyte_eq F out _ (by omega), byte_back]
    unfold wr1
    rw [hp, if_pos rfl]
  ·simp only
   rw [add1 k (by omega)]
theorem cwrite_tends (s : List UInt8) (hs : s.length ≤ 1000) : Tends (fun F => M_canon_write F s) (writeL s) := by
 unfold M_canon_write
 have hl := cwrite_loop s hs s.length 0 [] (by omega) (by simp; omega)
 rw [List.drop_zero, List.nil_append] at hl
 exact Tends.bind hl.run (.of fun F => rfl)
end Go.Vm
