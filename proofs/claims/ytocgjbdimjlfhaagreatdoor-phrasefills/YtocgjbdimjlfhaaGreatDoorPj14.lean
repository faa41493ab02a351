/- JSON: the document's numbers, quotes, places, ends are the plain ones. No condition but on lengths. -/
import Derived.Test.YtocgjbdimjlfhaaGreatDoorPj13
namespace Go.Vm
open Go.Lib (decodeL decodeN decodeL_N decode_N decodeN_shape decodeL_le decDigits itoa)
set_option linter.unusedVariables false
set_option linter.unusedSimpArgs false
/-! ### decimals -/
theorem digit_eq (F : Nat) (x : Nat) (hx : x < 10) : M_conciergeref09_digit F (x : Int) = some [UInt8.ofNat (48 + x)] := by
 unfold M_conciergeref09_digit
 rw [wrap64 _ (by omega) (by omega), wrapB8 _ (by omega) (by omega)]
 congr 3
where
 wrapB8 (n : Int) (h : 0 ≤ n) (h' : n ≤ 255) : IntKind.u8.wrap n = n := by
  simp only [IntKind.wrap, IntKind.bits, IntKind.signed]
  simp
  omega
theorem tmodN (u k : Nat) : (u : Int).tmod (k : Int) = ((u % k : Nat) : Int) := by rw [Int.ofNat_tmod]
theorem tdivN (u k : Nat) : (u : Int).tdiv (k : Int) = ((u / k : Nat) : Int) := by rw [Int.ofNat_tdiv]
def decR (u : Nat) : By := if u = 0 then [] else decDigits u
theorem decR_step {u : Nat} (h : u ≠ 0) : decR u = decR (u / 10) ++ [UInt8.ofNat (48 + u % 10)] := by
 unfold decR
 rw [if_neg h, decDigits]
 split
 ·rename_i h10
  rw [if_pos (by omega), Nat.mod_eq_of_lt h10]; rfl
 ·rename_i h10
  rw [if_neg (by omega)]
theorem dec_R (u : Nat) : decDigits u = decR (u / 10) ++ [UInt8.ofNat (48 + u % 10)] := by
 by_cases h : u = 0
 ·subst h; rw [Go.Lib.decDigits_one (by decide)]; rfl
 ·rw [← decR_step h]; unfold decR; rw [if_neg h]
theorem dec_loop (R : Nat → Int → Option By) : ∀ (n u : Nat) (out : By), u ≤ n → u < 1000000000000000000 → u + out.length ≤ 1000000000000000100 → TendsL (fun F => Mb_conciergeref09_Decimal_l0 F (R F)) ((u : Int), out, ()) (decR u ++ out, ()) := by
 intro n
 induction n with
 | zero =>
  intro u out hu h1 h2
  have : u = 0 := by omega
  subst this
  exact TendsL.fin (.of fun F => rfl)
 | succ n ih =>
  intro u out hu h1 h2
  by_cases h0 : u = 0
  ·subst h0
   exact TendsL.fin (.of fun F => rfl)
  ·have hp : (0 : Int) < (u : Int) := by omega
   refine TendsL.step (.of fun F => ?_) (y := (decR u ++ out, ())) ?_ (x' := (((u / 10 : Nat) : Int), UInt8.ofNat (48 + u % 10) :: out, ()))
   ·unfold Mb_conciergeref09_Decimal_l0
    have e1 : (u : Int).tmod 10 = ((u % 10 : Nat) : Int) := tmodN u 10
    have e2 : (u : Int).tdiv 10 = ((u / 10 : Nat) : Int) := tdivN u 10
    simp only [hp, decide_true, if_true, e1, e2, digit_eq F (u % 10) (by omega), Option.bind_some]
    rw [if_pos (by rw [decide_eq_true_eq]; simp; omega), wrap64 _ (by omega) (by omega)]
    rfl
   ·have := ih (u / 10) (UInt8.ofNat (48 + u % 10) :: out) (by omega) (by omega) (by simp; omega)
    rw [decR_step h0, List.append_assoc]
    exact this
theorem dec_pos (R : Nat → Int → Option By) (u : Nat) (h1 : u < 1000000000000000000) : Tends (fun F => Mb_conciergeref09_Decimal F (R F) (u : Int)) (decDigits u) := by
 unfold Mb_conciergeref09_Decimal
 refine Tends.neg (by simp) ?_
 have e1 : (u : Int).tmod 10 = ((u % 10 : Nat) : Int) := tmodN u 10
 have e2 : (u : Int).tdiv 10 = ((u / 10 : Nat) : Int) := tdivN u 10
 rw [e1, e2, wrap64 _ (by omega) (by omega)]
 refine Tends.bind (.of fun F => digit_eq F (u % 10) (by omega)) ?_
 refine Tends.bind (dec_loop R (u / 10) (u / 10) [UInt8.ofNat (48 + u % 10)] (Nat.le_refl _) (by omega) (by simp; omega)).run ?_
 rw [dec_R]
 exact .ret _
theorem decimal_t (n : Int) (hn : okN n) : Tends (fun F => M_conciergeref09_Decimal F n) (itoa n) := by
 obtain ⟨h1, h2⟩ := hn
 unfold itoa
 by_cases hneg : n < 0
 ·rw [if_pos hneg]
  have hp := dec_pos (fun F => Mr_conciergeref09_Decimal F (F - 2)) n.natAbs (by omega)
  have hb : Tends (fun F => Mb_conciergeref09_Decimal F (Mr_conciergeref09_Decimal F (F - 1)) n) (45 :: decDigits n.natAbs) := by
   unfold Mb_conciergeref09_Decimal
   refine Tends.pos (by simpa using hneg) ?_
   rw [wrap64 _ (by omega) (by omega)]
   have e : 0 - n = (n.natAbs : Int) := by omega
   rw [e]
   refine Tends.bind (r := decDigits n.natAbs) (hp.evt 2 fun F hF => ?_) ?_
   ·rw [show F - 1 = (F - 2) + 1 by omega]; rfl
   ·refine Tends.pos ?_ (.ret _)
    rw [decide_eq_true_eq]
    have := (itoa_lenA n.natAbs (by omega))
    simp only [List.length_cons, List.length_nil]
    omega
  exact hb.evt 1 fun F hF => by
   unfold M_conciergeref09_Decimal
   rw [show Mr_conciergeref09_Decimal F F n = Mr_conciergeref09_Decimal F ((F - 1) + 1) n by rw [show F - 1 + 1 = F by omega]]
   rfl
 ·rw [if_neg hneg]
  have hp := dec_pos (fun F => Mr_conciergeref09_Decimal F (F - 1)) n.toNat (by omega)
  rw [show ((n.toNat : Nat) : Int) = n by omega] at hp
  exact hp.evt 1 fun F hF => by
   unfold M_conciergeref09_Decimal
   rw [show Mr_conciergeref09_Decimal F F n = Mr_conciergeref09_Decimal F ((F - 1) + 1) n by rw [show F - 1 + 1 = F by omega]]
   rfl
where
 itoa_lenA (u : Nat) (h : u < 1000000000000000) : (decDigits u).length ≤ 15 := by
  rw [Go.Lib.decDigits_length]; exact nDigits_le 15 u (by decide) (by rw [p15]; exact h)
/-! ### numbers -/
abbrev V9 := Int × By × By × Int × List By × List By × Unit
def z9 : V9 := (0, [], [], 0, [], [], ())
abbrev NS := Unit × Unit × Int × Int × Int × RS × V9 × Unit
def nS (sg : Int) (n c : Nat) (x : RS) : NS := ((), (), sg, (n : Int), (c : Int), x, z9, ())
theorem num9_step (F : Nat) (s : By) (k sg : Int) (n c : Nat) (d : UInt8) (q : By) (hq : d :: q <:+ s) (hs : s.length ≤ 1000) (hd : isDig d = true) (hc : c < 15) (hn : c = 0 ∨ 0 < n) (hN : n < 10000000000000000) :
  M_conciergeref09_Read_number_l0 F (nS sg n c (st s (d :: q) k 0)) = some (.inl (nS sg (n * 10 + (d.toNat - 48)) (c + 1) (st s q k 0))) := by
 simp [isDig] at hd
 have d1 : (48 : Int) ≤ (d.toNat : Int) := by omega
 have d2 : (d.toNat : Int) ≤ 57 := by omega
 have e1 := at_in hq
 have e2 := idx_suf hq
 have e3 := next_suf hq hs
 have c1 : (c : Int) < 15 := by omega
 have w1 : IntKind.i64.wrap (d.toNat : Int) = (d.toNat : Int) := wrap64 _ (by omega) (by omega)
 have w2 : IntKind.i64.wrap ((n : Int) * 10) = (n : Int) * 10 := wrap64 _ (by omega) (by omega)
 have w3 : IntKind.i64.wrap ((n : Int) * 10 + (d.toNat : Int)) = (n : Int) * 10 + (d.toNat : Int) := wrap64 _ (by omega) (by omega)
 have w4 : IntKind.i64.wrap ((n : Int) * 10 + (d.toNat : Int) - 48) = ((n * 10 + (d.toNat - 48) : Nat) : Int) := by rw [wrap64 _ (by omega) (by omega)]; omega
 have w5 : IntKind.i64.wrap ((c : Int) + 1) = ((c + 1 : Nat) : Int) := by rw [wrap64 _ (by omega) (by omega)]; omega
 unfold M_conciergeref09_Read_number_l0 nS st
 by_cases hc0 : c = 0
 ·have hc0' : (c : Int) = 0 := by omega
  simp only [c1, decide_true, if_true, e1, e2, Option.bind_some, d1, d2, w1, w2, w3, w4, w5, e3, decide_eq_true hc0', Bool.true_eq_false, if_false]
 ·have hc0' : ¬ (c : Int) = 0 := by omega
  have hn' : (0 : Int) < (n : Int) := by omega
  simp only [c1, decide_true, if_true, e1, e2, Option.bind_some, d1, d2, w1, w2, w3, w4, w5, e3, decide_eq_false hc0', hn']
theorem num9_stop (F : Nat) (s : By) (k sg : Int) (n c : Nat) (x : By) (hx : x <:+ s) (hs : s.length ≤ 1000) (h : x = [] ∨ (∃ d q, x = d :: q ∧ isDig d = false) ∨ 15 ≤ c ∨ (c ≠ 0 ∧ n = 0)) :
  M_conciergeref09_Read_number_l0 F (nS sg n c (st s x k 0)) = some (.inr (nS sg n c (st s x k 0))) := by
 unfold M_conciergeref09_Read_number_l0 nS st
 by_cases c1 : c < 15
 ·have c1' : (c : Int) < 15 := by omega
  cases x with
  | nil =>
   have : ¬ ((s.length - ([] : By).length : Nat) : Int) < (s.length : Int) := at_end
   simp only [c1', decide_true, if_true, this, decide_false, Bool.false_eq_true, if_false, Option.bind_some]
  | cons d q =>
   have e1 := at_in hx
   have e2 := idx_suf hx
   by_cases hd : isDig d = true
   ·simp [isDig] at hd
    have d1 : (48 : Int) ≤ (d.toNat : Int) := by omega
    have d2 : (d.toNat : Int) ≤ 57 := by omega
    have h2 : c ≠ 0 ∧ n = 0 := by
     rcases h with h | ⟨d', q', h, h'⟩ | h | h
     ·cases h
     ·injection h with h1 h2; subst h1; simp [isDig] at h'; omega
     ·omega
     ·exact h
    have hc0' : ¬ (c : Int) = 0 := by omega
    have hn' : ¬ (0 : Int) < (n : Int) := by omega
    simp only [c1', e1, decide_true, if_true, e2, Option.bind_some, d1, d2, decide_eq_false hc0', hn', decide_false, Bool.false_eq_true, if_false]
   ·simp [isDig] at hd
    by_cases d1 : 48 ≤ d.toNat
    ·have d1' : (48 : Int) ≤ (d.toNat : Int) := by omega
     have d2 : ¬ (d.toNat : Int) ≤ 57 := by have := hd d1; omega
     simp only [c1', e1, decide_true, if_true, e2, Option.bind_some, d1', d2, decide_false, Bool.false_eq_true, if_false]
    ·have d1' : ¬ (48 : Int) ≤ (d.toNat : Int) := by omega
     simp only [c1', e1, decide_true, if_true, e2, Option.bind_some, d1', decide_false, Bool.false_eq_true, if_false]
 ·have c1' : ¬ (c : Int) < 15 := by omega
  simp only [c1', decide_false, Bool.false_eq_true, if_false, Option.bind_some]
theorem num9_more (s : By) (hs : s.length ≤ 1000) (k sg : Int) : ∀ (m : Nat) (x : By) (n c : Nat), x <:+ s → x.length ≤ m → 0 < n → n < 10 ^ c → c ≤ 15 →
  TendsL M_conciergeref09_Read_number_l0 (nS sg n c (st s x k 0)) (nS sg (((x.takeWhile isDig).take (15 - c)).foldl (fun n d => n * 10 + (d.toNat - 48)) n) (c + ((x.takeWhile isDig).take (15 - c)).length) (st s (x.drop ((x.takeWhile isDig).take (15 - c)).length) k 0)) := by
 intro m
 induction m with
 | zero =>
  intro x n c hx hm hn hN hc
  have : x = [] := List.length_eq_zero_iff.1 (by omega)
  subst this
  exact TendsL.fin (.of fun F => (num9_stop F s k sg n c [] hx hs (.inl rfl)).trans (by simp))
 | succ m ih =>
  intro x n c hx hm hn hN hc
  cases x with
  | nil => exact TendsL.fin (.of fun F => (num9_stop F s k sg n c [] hx hs (.inl rfl)).trans (by simp))
  | cons d q =>
   simp only [List.length_cons] at hm
   by_cases hd : isDig d = true
   ·by_cases h15 : c < 15
    ·have hN' : n < 10000000000000000 := by
      have : 10 ^ c ≤ 10 ^ 15 := Nat.pow_le_pow_right (by decide) hc
      rw [p15] at this
      omega
     have hd' := hd
     simp [isDig] at hd'
     have i2 := ih q (n * 10 + (d.toNat - 48)) (c + 1) (tail_suf hx) (by omega) (by omega) (by rw [Nat.pow_succ]; omega) (by omega)
     refine TendsL.step (.of fun F => num9_step F s k sg n c d q hx hs hd h15 (.inr hn) hN') ?_
     have e1 : 15 - c = (15 - (c + 1)) + 1 := by omega
     rw [List.takeWhile_cons_of_pos hd, e1, List.take_succ_cons, List.length_cons, List.drop_succ_cons, List.foldl_cons]
     rw [show c + ((List.take (15 - (c + 1)) (List.takeWhile isDig q)).length + 1) = c + 1 + (List.take (15 - (c + 1)) (List.takeWhile isDig q)).length by omega]
     exact i2
    ·have : 15 - c = 0 := by omega
     rw [this, List.take_zero, List.length_nil, List.drop_zero]
     exact TendsL.fin (.of fun F => num9_stop F s k sg n c _ hx hs (.inr (.inr (.inl (by omega)))))
   ·have hd' : isDig d = false := by simpa using hd
    rw [List.takeWhile_cons_of_neg hd, List.take_nil, List.length_nil, List.drop_zero]
    exact TendsL.fin (.of fun F => num9_stop F s k sg n c _ hx hs (.inr (.inl ⟨d, q, rfl, hd'⟩)))
theorem num9_loop (s : By) (hs : s.length ≤ 1000) (k sg : Int) (x : By) (hx : x <:+ s) :
  TendsL M_conciergeref09_Read_number_l0 (nS sg 0 0 (st s x k 0)) (nS sg (valD (digs x)) (digs x).length (st s (x.drop (digs x).length) k 0)) := by
 cases x with
 | nil => exact TendsL.fin (.of fun F => num9_stop F s k sg 0 0 [] hx hs (.inl rfl))
 | cons d q =>
  by_cases hd : isDig d = true
  ·have hd' := hd
   simp [isDig] at hd'
   have s1 := fun F => num9_step F s k sg 0 0 d q hx hs hd (by omega) (.inl rfl) (by omega)
   by_cases hc : d = 48
   ·subst hc
    refine TendsL.step (.of s1) (TendsL.fin (.of fun F => ?_))
    exact num9_stop F s k sg 0 1 q (tail_suf hx) hs (.inr (.inr (.inr ⟨by decide, rfl⟩)))
   ·have hne : d.toNat ≠ 48 := fun hh => hc (UInt8.toNat_inj.1 hh)
    have := num9_more s hs k sg q.length q (0 * 10 + (d.toNat - 48)) (0 + 1) (tail_suf hx) (Nat.le_refl _) (by omega) (by omega) (by omega)
    have hdg : digs (d :: q) = d :: (q.takeWhile isDig).take 14 := by
     unfold digs
     simp only
     rw [if_neg hc, List.takeWhile_cons_of_pos hd]
     rfl
    rw [hdg]
    refine TendsL.step (.of s1) ?_
    rw [List.length_cons, List.drop_succ_cons]
    unfold valD
    rw [List.foldl_cons]
    rw [Nat.add_comm (0 + 1) _] at this
    exact this
  ·have hd' : isDig d = false := by simpa using hd
   have hc : d ≠ 48 := by rintro rfl; exact hd (by decide)
   unfold digs
   simp only
   rw [if_neg hc, List.takeWhile_cons_of_neg hd]
   exact TendsL.fin (.of fun F => num9_stop F s k sg 0 0 _ hx hs (.inr (.inl ⟨d, q, rfl, hd'⟩)))
noncomputable def num9T (F : Nat) (v8 : NS) : Option (V9 × RS) :=
 (if decide (v8.2.2.2.2.1 = 0) = true then
   (M_conciergeref09_Read_bad F ((v8.2.2.2.2.2.1.1, v8.2.2.2.2.2.1.2.1, v8.2.2.2.2.2.1.2.2.1, v8.2.2.2.2.2.1.2.2.2.1, ()), 3)).bind fun v9 =>
    some ((), (), v8.2.2.1, v8.2.2.2.1, (v9.2.1, v9.2.2.1, v9.2.2.2.1, v9.2.2.2.2.1, ()), v8.2.2.2.2.2.2.1, ())
  else some ((), (), v8.2.2.1, v8.2.2.2.1, (v8.2.2.2.2.2.1.1, v8.2.2.2.2.2.1.2.1, v8.2.2.2.2.2.1.2.2.1, v8.2.2.2.2.2.1.2.2.2.1, ()), v8.2.2.2.2.2.2.1, ()) : Option (Unit × Unit × Int × Int × RS × V9 × Unit)).bind fun v10 =>
 (M_conciergeref09_Decimal F (IntKind.i64.wrap (v10.2.2.1 * v10.2.2.2.1))).bind fun v11 =>
  some ((3, v11, [], IntKind.i64.wrap (v10.2.2.1 * v10.2.2.2.1), [], [], ()), v10.2.2.2.2.1.1, v10.2.2.2.2.1.2.1, v10.2.2.2.2.1.2.2.1, v10.2.2.2.2.1.2.2.2.1, ())
theorem num9_eq (F : Nat) (x : RS) : M_conciergeref09_Read_number F x = (M_conciergeref09_Read_is F ((x.1, x.2.1, x.2.2.1, x.2.2.2.1, ()), 45)).bind fun v0 =>
  (if v0.1 = true then some ((), (), -1, (v0.2.1, IntKind.i64.wrap (v0.2.2.1 + 1), v0.2.2.2.1, v0.2.2.2.2.1, ()), z9, ()) else some ((), (), 1, (v0.2.1, v0.2.2.1, v0.2.2.2.1, v0.2.2.2.2.1, ()), z9, ()) : Option (Unit × Unit × Int × RS × V9 × Unit)).bind fun v1 =>
   (loopM (M_conciergeref09_Read_number_l0 F) F ((), (), v1.2.2.1, 0, 0, (v1.2.2.2.1.1, v1.2.2.2.1.2.1, v1.2.2.2.1.2.2.1, v1.2.2.2.1.2.2.2.1, ()), v1.2.2.2.2.1, ())).bind (num9T F) := rfl
theorem num9_tail (s : By) (sg : Int) (hsg : sg = 1 ∨ sg = -1) (n c : Nat) (hn : n < 1000000000000000) (q : By) (k : Int) (hc : c ≠ 0) : Tends (fun F => num9T F (nS sg n c (st s q k 0))) ((3, itoa (sg * n), [], sg * n, [], [], ()), st s q k 0) := by
 have hc' : ¬ (c : Int) = 0 := by omega
 have hw : IntKind.i64.wrap (sg * (n : Int)) = sg * (n : Int) := by rcases hsg with rfl | rfl <;> exact wrap64 _ (by omega) (by omega)
 have hok : okN (sg * (n : Int)) := by unfold okN; rcases hsg with rfl | rfl <;> omega
 unfold num9T nS
 refine Tends.bind (r := (((), (), sg, (n : Int), st s q k 0, z9, ()) : Unit × Unit × Int × Int × RS × V9 × Unit)) (Tends.neg (by simpa using hc') (.ret _)) ?_
 simp only [hw]
 exact Tends.bind (decimal_t _ hok) (.ret _)
theorem num9_tail0 (s : By) (sg : Int) (hsg : sg = 1 ∨ sg = -1) (q : By) (k : Int) : Tends (fun F => num9T F (nS sg 0 0 (st s q k 0))) ((3, [48], [], 0, [], [], ()), st s q k 3) := by
 have hw : IntKind.i64.wrap (sg * ((0 : Nat) : Int)) = 0 := by rcases hsg with rfl | rfl <;> rfl
 have hok : okN 0 := by unfold okN; omega
 have hi : itoa 0 = [48] := by unfold itoa; rw [if_neg (by decide)]; exact Go.Lib.decDigits_one (by decide)
 have hd := decimal_t 0 hok
 rw [hi] at hd
 unfold num9T nS
 refine Tends.bind (r := (((), (), sg, ((0 : Nat) : Int), st s q k 3, z9, ()) : Unit × Unit × Int × Int × RS × V9 × Unit)) (Tends.pos rfl (.of fun F => ?_)) ?_
 ·unfold st
  simp only [bad_eq, Option.bind_some, if_true]
 ·simp only [hw]
  exact Tends.bind hd (.ret _)
theorem number9_t (s r : By) (h : r <:+ s) (hs : s.length ≤ 1000) (k : Int) : ∃ y, Tends (fun F => M_conciergeref09_Read_number F (st s r k 0)) y ∧ (match numP r with
  | some (n, q) => y = ((3, itoa n, [], n, [], [], ()), st s q k 0)
  | none => ∃ r', r' <:+ s ∧ y = ((3, [48], [], 0, [], [], ()), st s r' k 3)) := by
 have run : ∀ (sg : Int) (x : By) (z : V9 × RS), (if isH r 0 45 = true then some ((), (), -1, (s, IntKind.i64.wrap (((s.length - r.length : Nat) : Int) + 1), k, 0, ()), z9, ()) else some ((), (), 1, (s, ((s.length - r.length : Nat) : Int), k, 0, ()), z9, ()) : Option (Unit × Unit × Int × RS × V9 × Unit)) = some ((), (), sg, st s x k 0, z9, ()) → x <:+ s → Tends (fun F => num9T F (nS sg (valD (digs x)) (digs x).length (st s (x.drop (digs x).length) k 0))) z → Tends (fun F => M_conciergeref09_Read_number F (st s r k 0)) z := by
  intro sg x z h1 hx hz
  refine Tends.congr (m := fun F => _) ?_ fun F => num9_eq F _
  refine Tends.bind (.of fun F => is_eq F s r h k 0 45) ?_
  refine Tends.bind (.of fun F => h1) ?_
  exact Tends.bind (num9_loop s hs k sg x hx).run hz
 have hval := digs_val
 have dl : ∀ x, digs x ≠ [] → (digs x).length ≠ 0 := fun x hx hh => hx (List.length_eq_zero_iff.1 hh)
 unfold numP
 cases r with
 | nil =>
  refine ⟨_, run 1 [] _ ?_ h (num9_tail0 s 1 (.inl rfl) [] k), [], h, rfl⟩
  rw [isH_nil]
  rfl
 | cons c q =>
  simp only
  by_cases c45 : c = 45
  ·subst c45
   rw [if_pos rfl]
   have h1 : (if isH ((45 : UInt8) :: q) 0 45 = true then some ((), (), -1, (s, IntKind.i64.wrap (((s.length - ((45 : UInt8) :: q).length : Nat) : Int) + 1), k, 0, ()), z9, ()) else some ((), (), 1, (s, ((s.length - ((45 : UInt8) :: q).length : Nat) : Int), k, 0, ()), z9, ()) : Option (Unit × Unit × Int × RS × V9 × Unit)) = some ((), (), -1, st s q k 0, z9, ()) := by
    rw [isH_cons, next_suf h hs]
    rfl
   by_cases hd : digs q = []
   ·rw [if_pos hd]
    refine ⟨_, run (-1) q _ h1 (tail_suf h) ?_, q, tail_suf h, rfl⟩
    rw [hd]
    exact num9_tail0 s (-1) (.inr rfl) q k
   ·rw [if_neg hd]
    refine ⟨_, run (-1) q _ h1 (tail_suf h) (num9_tail s (-1) (.inr rfl) _ _ (hval q) _ k (dl q hd)), ?_⟩
    simp only [Int.neg_mul, Int.one_mul]
  ·rw [if_neg c45]
   have h1 : (if isH (c :: q) 0 45 = true then some ((), (), -1, (s, IntKind.i64.wrap (((s.length - (c :: q).length : Nat) : Int) + 1), k, 0, ()), z9, ()) else some ((), (), 1, (s, ((s.length - (c :: q).length : Nat) : Int), k, 0, ()), z9, ()) : Option (Unit × Unit × Int × RS × V9 × Unit)) = some ((), (), 1, st s (c :: q) k 0, z9, ()) := by
    rw [isH_cons, decide_eq_false c45]
    rfl
   by_cases hd : digs (c :: q) = []
   ·rw [if_pos hd]
    refine ⟨_, run 1 (c :: q) _ h1 h ?_, c :: q, h, rfl⟩
    rw [hd]
    exact num9_tail0 s 1 (.inl rfl) (c :: q) k
   ·rw [if_neg hd]
    refine ⟨_, run 1 (c :: q) _ h1 h (num9_tail s 1 (.inl rfl) _ _ (hval (c :: q)) _ k (dl _ hd)), ?_⟩
    simp only [Int.one_mul]
end Go.Vm
