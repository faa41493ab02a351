/- Frames, plainly; the program's. No condition. -/
import Derived.Test.YtmbnnjpdpginlaaGreatDoorPcrc
import Derived.Test.YtmbnnjpdpginlaaGreatDoorFframe
namespace Go.Vm
set_option linter.unusedVariables false
set_option linter.unusedSimpArgs false
open Go

def two (n : Nat) : List UInt8 := [UInt8.ofNat (n / 256), UInt8.ofNat n]
def frm (s : List UInt8) : List UInt8 := sealL (two s.length) ++ sealL s
theorem frm_len (s : List UInt8) : (frm s).length = s.length + 10 := by unfold frm; rw [List.length_append, sealL_len, sealL_len]; simp [two]; omega
def szL (s : List UInt8) : Nat := (s.getD 0 0).toNat * 256 + (s.getD 1 0).toNat
/-- The first one's content, how many bytes it has, the fault. -/
def fstL (s : List UInt8) : List UInt8 × Nat × Int :=
  if s.length < 6 then ([], 0, 3) else if fourL (s.take 2) ≠ (s.drop 2).take 4 then ([], 0, 4) else if 2000 < szL s then ([], 0, 5) else if s.length < szL s + 10 then ([], 0, 3)
  else if fourL ((s.drop 6).take (szL s)) ≠ (s.drop (szL s + 6)).take 4 then ([], 0, 4) else ((s.drop 6).take (szL s), szL s + 10, 0)
theorem seal_iff {s : List UInt8} (n : Nat) (h : s.length = n + 4) : sealL (s.take n) = s ↔ fourL (s.take n) = s.drop n := by
  unfold sealL
  constructor
  · intro e
    have := congrArg (List.drop n) e
    rw [List.drop_append_of_le_length (by simp; omega), List.drop_of_length_le (by simp; exact Nat.min_le_left _ _)] at this
    simpa using this
  · intro e
    rw [e, List.take_append_drop]
theorem opnL_part (s : List UInt8) (a n : Nat) (h : a + n + 4 ≤ s.length) : opnL ((s.drop a).take (n + 4)) = if fourL ((s.drop a).take n) ≠ (s.drop (a + n)).take 4 then ([], false) else ((s.drop a).take n, true) := by
  obtain ⟨t, ht⟩ : ∃ t, t = (s.drop a).take (n + 4) := ⟨_, rfl⟩
  have hl : t.length = n + 4 := by rw [ht]; simp; omega
  have e1 : t.take (t.length - 4) = (s.drop a).take n := by rw [hl, ht, Nat.add_sub_cancel, List.take_take, Nat.min_eq_left (by omega)]
  have e2 : t.drop n = (s.drop (a + n)).take 4 := by rw [ht, List.drop_take, List.drop_drop, show n + 4 - n = 4 by omega]
  have hi := seal_iff (s := t) n hl
  rw [e2] at hi
  have e3 : t.take n = (s.drop a).take n := by rw [← e1, hl, Nat.add_sub_cancel]
  rw [e3] at hi
  rw [← ht]
  unfold opnL
  rw [e1]
  by_cases hq : fourL ((s.drop a).take n) = (s.drop (a + n)).take 4
  · have hn : ¬ (t.length < 4 ∨ sealL ((s.drop a).take n) ≠ t) := fun x => x.elim (by omega) (fun y => y (hi.2 hq))
    rw [if_neg hn, if_neg (fun y => y hq)]
  · have hn : t.length < 4 ∨ sealL ((s.drop a).take n) ≠ t := .inr (fun y => hq (hi.1 y))
    rw [if_pos hn, if_pos hq]
theorem ior8 (a c : UInt8) : ior .i64 (shl .i64 (IntKind.i64.wrap (a.toNat : Int)) 8) (IntKind.i64.wrap (c.toNat : Int)) = ((a.toNat * 256 + c.toNat : Nat) : Int) := by
  have ha := a.toNat_lt
  have hc := c.toNat_lt
  have e0 : IntKind.i64.wrap (a.toNat : Int) = (a.toNat : Int) := by rw [wrap64] <;> omega
  have e2 : IntKind.i64.wrap (c.toNat : Int) = (c.toNat : Int) := by rw [wrap64] <;> omega
  have e1 : shl .i64 (a.toNat : Int) 8 = ((a.toNat * 256 : Nat) : Int) := by
    unfold shl
    rw [show (2 : Int) ^ (min (8 : Int).toNat IntKind.i64.bits) = 256 from by decide, wrap64 _ (by omega) (by omega)]
    omega
  have e3 : a.toNat * 256 ||| c.toNat = a.toNat * 256 + c.toNat := by
    have := Nat.shiftLeft_add_eq_or_of_lt (b := c.toNat) (i := 8) (by omega) a.toNat
    rw [Nat.shiftLeft_eq] at this
    exact this.symm
  rw [e0, e2, e1]
  unfold ior
  rw [BitVec.ofInt_natCast, BitVec.ofInt_natCast, BitVec.toNat_or, BitVec.toNat_ofNat, BitVec.toNat_ofNat]
  rw [show IntKind.i64.bits = 64 from rfl, Nat.mod_eq_of_lt (by omega), Nat.mod_eq_of_lt (by omega), e3, wrap64 _ (by omega) (by omega)]
theorem size_eq (F n : Nat) (h : n ≤ 2000) : M_frame_Size F (n : Int) = some ((n + 10 : Nat) : Int) := by
  unfold M_frame_Size
  have e : IntKind.i64.wrap ((n : Int) + 10) = ((n + 10 : Nat) : Int) := by rw [wrap64] <;> omega
  rw [if_pos (show decide ((n : Int) < 0) = false by simp), Option.bind_some, if_neg (by simp; omega)]
  exact congrArg some e
theorem make_tends (s : List UInt8) (h : s.length ≤ 2000) : Tends (fun F => M_frame_Make F s) (frm s, 0) := by
  unfold M_frame_Make
  have e1 : UInt8.ofNat (IntKind.u8.wrap (shr IntKind.i64 (s.length : Int) 8)).toNat = UInt8.ofNat (s.length / 256) := by
    have : shr IntKind.i64 (s.length : Int) 8 = ((s.length / 256 : Nat) : Int) := by
      unfold shr
      rw [show min (8 : Int).toNat IntKind.i64.bits = 8 from rfl, Int.fdiv_eq_ediv_of_nonneg _ (by decide)]
      omega
    exact byteU _ _ this
  have e2 : UInt8.ofNat (IntKind.u8.wrap (s.length : Int)).toNat = UInt8.ofNat s.length := byteU _ _ rfl
  simp only [e1, e2]
  refine Tends.neg (by simp; omega) (Tends.bind (seal_tends (two s.length) (by simp [two])) (Tends.bind (seal_tends s (by omega)) (Tends.pos ?_ (.ret _))))
  rw [decide_eq_true_eq, sealL_len, sealL_len]
  simp [two]
  omega
theorem ffirst_tends (s : List UInt8) (hs : s.length ≤ 1000000) : Tends (fun F => M_frame_First F s) ((fstL s).1, ((fstL s).2.1 : Int), (fstL s).2.2) := by
  unfold M_frame_First fstL
  by_cases h6 : s.length < 6
  · rw [if_pos h6]
    exact Tends.pos (by simp; omega) (.ret _)
  rw [if_neg h6]
  refine Tends.neg (by simp; omega) ?_
  have s1 : sub s 0 6 = some (s.take 6) := by simpa using subN s 0 6 (by omega) (by omega)
  have o1 := opnL_part s 0 2 (by omega)
  rw [List.drop_zero] at o1
  refine Tends.bind (.const s1) (Tends.bind (copen_tends (s.take 6) (by simp; omega)) ?_)
  rw [o1]
  by_cases hq : fourL (s.take 2) ≠ (s.drop 2).take 4
  · rw [if_pos hq, if_pos hq]
    exact Tends.pos rfl (.ret _)
  rw [if_neg hq, if_neg hq]
  have g0 : s.getD 0 0 = s[0] := by simp [List.getD, List.getElem?_eq_getElem (show 0 < s.length by omega)]
  have g1 : s.getD 1 0 = s[1] := by simp [List.getD, List.getElem?_eq_getElem (show 1 < s.length by omega)]
  have i0 : idx (s.take 2) 0 = some s[0] := by
    have := idxN (s.take 2) 0 0 rfl (by simp; omega)
    rw [this, List.getElem_take]
  have i1 : idx (s.take 2) 1 = some s[1] := by
    have := idxN (s.take 2) 1 1 rfl (by simp; omega)
    rw [this, List.getElem_take]
  have hsz : szL s = s[0].toNat * 256 + s[1].toNat := by unfold szL; rw [g0, g1]
  refine Tends.neg (by simp) (Tends.bind (r := (s, (szL s : Int), ())) (Tends.bind (.const i0) (Tends.bind (.const i1) (.of fun F => by rw [hsz, ior8]))) ?_)
  by_cases hb : 2000 < szL s
  · rw [if_pos hb]
    exact Tends.pos (by simp; omega) (.ret _)
  rw [if_neg hb]
  refine Tends.neg (by simp; omega) (Tends.bind (.of fun F => size_eq F (szL s) (by omega)) ?_)
  by_cases hl : s.length < szL s + 10
  · rw [if_pos hl]
    exact Tends.pos (by simp; omega) (.ret _)
  rw [if_neg hl]
  have s2 : sub s 6 ((szL s + 10 : Nat) : Int) = some ((s.drop 6).take (szL s + 4)) := by
    have := subN s 6 (szL s + 10) (by omega) (by omega)
    rw [show szL s + 10 - 6 = szL s + 4 by omega] at this
    exact this
  have o2 := opnL_part s 6 (szL s) (by omega)
  rw [Nat.add_comm 6 (szL s)] at o2
  refine Tends.neg (by simp; omega) (Tends.bind (.const s2) (Tends.bind (copen_tends _ (by simp; omega)) ?_))
  rw [o2]
  by_cases hq2 : fourL ((s.drop 6).take (szL s)) ≠ (s.drop (szL s + 6)).take 4
  · rw [if_pos hq2, if_pos hq2]
    exact Tends.pos rfl (.ret _)
  rw [if_neg hq2, if_neg hq2]
  exact Tends.neg (by simp) (.ret _)
theorem fstL_ok {s x : List UInt8} {n : Nat} (h : fstL s = (x, n, 0)) : 10 ≤ n ∧ n ≤ s.length ∧ x.length + 10 = n := by
  unfold fstL at h
  split at h
  · cases h
  · split at h
    · cases h
    · split at h
      · cases h
      · split at h
        · cases h
        · split at h
          · cases h
          · cases h
            simp
            omega
/-- All that are whole. -/
def splG : Nat → List UInt8 → List (List UInt8) × Nat × Int
  | 0, _ => ([], 0, 0)
  | f + 1, s => if s = [] then ([], 0, 0) else if (fstL s).2.2 ≠ 0 then ([], 0, (fstL s).2.2) else ((fstL s).1 :: (splG f (s.drop (fstL s).2.1)).1, (fstL s).2.1 + (splG f (s.drop (fstL s).2.1)).2.1, (splG f (s.drop (fstL s).2.1)).2.2)
def splL (s : List UInt8) : List (List UInt8) × Nat × Int := splG s.length s
abbrev SpR : Type := (Unit × Int × List (List UInt8) × Unit) ⊕ (Unit × Int × Int × List (List UInt8) × Unit)
def splR (at' : Nat) (out : List (List UInt8)) (y : List (List UInt8) × Nat × Int) : SpR := if y.2.2 = 0 then .inl ((), ((at' + y.2.1 : Nat) : Int), out ++ y.1, ()) else .inr ((), ((at' + y.2.1 : Nat) : Int), y.2.2, out ++ y.1, ())
theorem split_loop (s : List UInt8) (hs : s.length ≤ 1000000) : ∀ (f at' : Nat) (out : List (List UInt8)), s.length - at' ≤ f → at' ≤ s.length → out.length + (s.length - at') ≤ 2000000 →
    TendsL M_frame_Split_l0 (s, (), (at' : Int), out, ()) (splR at' out (splG f (s.drop at')))
  | 0, at', out, hf, ha, ho => by
    refine TendsL.fin (.of fun F => ?_)
    unfold M_frame_Split_l0
    rw [if_neg (by simp; omega)]
    unfold splR splG
    simp
  | f + 1, at', out, hf, ha, ho => by
    by_cases he : at' = s.length
    · refine TendsL.fin (.of fun F => ?_)
      unfold M_frame_Split_l0
      rw [if_neg (by simp; omega), List.drop_of_length_le (by omega)]
      unfold splR splG
      simp
    · have hd : s.drop at' ≠ [] := fun h => he (by have := List.drop_eq_nil_iff.1 h; omega)
      have s1 := subE s at' (by omega)
      have hr := ffirst_tends (s.drop at') (by simp; omega)
      obtain ⟨⟨x, n, e⟩, hx⟩ : ∃ y, y = fstL (s.drop at') := ⟨_, rfl⟩
      rw [← hx] at hr
      have hs1 : Tends (fun F => ((sub s (at' : Int) (s.length : Int)).bind fun v1 => (M_frame_First F v1).bind fun v2 => some (s, (), (at' : Int), v2.1, v2.2.1, v2.2.2, out, ()))) (s, (), (at' : Int), x, (n : Int), e, out, ()) := Tends.bind (.const s1) (Tends.bind hr (.ret _))
      by_cases h0 : e = 0
      · subst h0
        obtain ⟨q1, q2, q3⟩ := fstL_ok hx.symm
        rw [List.length_drop] at q2
        have e1 : IntKind.i64.wrap ((at' : Int) + (n : Int)) = ((at' + n : Nat) : Int) := by rw [wrap64] <;> omega
        have hg : splR at' out (splG (f + 1) (s.drop at')) = splR (at' + n) (out ++ [x]) (splG f (s.drop (at' + n))) := by
          rw [splG, if_neg hd, ← hx]
          simp only [ne_eq, not_true_eq_false, if_false, List.drop_drop]
          unfold splR
          simp only [Nat.add_assoc, List.append_assoc, List.singleton_append]
        rw [hg]
        refine TendsL.step ?_ (split_loop s hs f (at' + n) (out ++ [x]) (by omega) (by omega) (by simp; omega))
        unfold M_frame_Split_l0
        refine Tends.pos (by simp; omega) (Tends.bind hs1 (Tends.neg (by simp) (Tends.pos (by simp; omega) (.of fun F => ?_))))
        simp only [e1]
      · refine TendsL.fin ?_
        have hg : splR at' out (splG (f + 1) (s.drop at')) = .inr ((), (at' : Int), e, out, ()) := by
          rw [splG, if_neg hd, ← hx]
          simp only [ne_eq, h0, not_false_eq_true, if_true]
          unfold splR
          simp [h0]
        rw [hg]
        unfold M_frame_Split_l0
        exact Tends.pos (by simp; omega) (Tends.bind hs1 (Tends.pos (by simp [h0]) (.ret _)))
theorem split_tends (s : List UInt8) (hs : s.length ≤ 1000000) : Tends (fun F => M_frame_Split F s) ((splL s).1, ((splL s).2.1 : Int), (splL s).2.2) := by
  unfold M_frame_Split
  have h := (split_loop s hs s.length 0 [] (by omega) (by omega) (by simp; omega)).run
  rw [List.drop_zero] at h
  refine Tends.bind h ?_
  unfold splR splL
  generalize splG s.length s = y
  obtain ⟨l, n, e⟩ := y
  by_cases h0 : e = 0
  · subst h0
    refine .of fun F => ?_
    simp [sumC]
  · refine .of fun F => ?_
    simp [sumC, h0]

/-! ### frames are read again -/
theorem two_len (n : Nat) : (two n).length = 2 := rfl
theorem szL_frm (s t : List UInt8) (h : s.length ≤ 2000) : szL (frm s ++ t) = s.length := by
  unfold szL frm sealL two
  simp [List.getD]
  omega
theorem fstL_frm (s t : List UInt8) (h : s.length ≤ 2000) : fstL (frm s ++ t) = (s, s.length + 10, 0) := by
  have hz := szL_frm s t h
  have hl := frm_len s
  have e0 : frm s ++ t = two s.length ++ (fourL (two s.length) ++ (s ++ (fourL s ++ t))) := by unfold frm sealL; simp only [List.append_assoc]
  have f4 : ∀ x : List UInt8, (fourL x).length = 4 := fun x => rfl
  have t2 : (frm s ++ t).take 2 = two s.length := by rw [e0]; rfl
  have d2 : (frm s ++ t).drop 2 = fourL (two s.length) ++ (s ++ (fourL s ++ t)) := by rw [e0]; rfl
  have d6 : (frm s ++ t).drop 6 = s ++ (fourL s ++ t) := by
    rw [show 6 = 2 + 4 from rfl, ← List.drop_drop, d2]
    exact List.drop_left' (f4 _)
  have d6' : (frm s ++ t).drop (s.length + 6) = fourL s ++ t := by
    rw [Nat.add_comm, ← List.drop_drop, d6]
    exact List.drop_left
  have tk : ∀ (x y : List UInt8), (fourL x ++ y).take 4 = fourL x := fun x y => List.take_left' (f4 x)
  unfold fstL
  rw [hz, t2, d2, tk, d6, List.take_left, d6', tk]
  rw [if_neg (by simp; omega), if_neg (by simp), if_neg (by omega), if_neg (by simp; omega), if_neg (by simp)]
theorem splG_frm : ∀ (l : List (List UInt8)) (f : Nat) (t : List UInt8), (∀ x ∈ l, x.length ≤ 2000) → (l.flatMap frm ++ t).length ≤ f →
    splG f (l.flatMap frm ++ t) = (l ++ (splG (f - l.length) t).1, (l.flatMap frm).length + (splG (f - l.length) t).2.1, (splG (f - l.length) t).2.2)
  | [], f, t, hl, hf => by simp
  | x :: l, f, t, hl, hf => by
    have hx := hl x (List.mem_cons_self ..)
    have hfl := frm_len x
    rw [List.flatMap_cons, List.append_assoc] at hf ⊢
    obtain ⟨f, rfl⟩ : ∃ g, f = g + 1 := ⟨f - 1, by simp at hf; omega⟩
    have hf' : (frm x).length + (l.flatMap frm ++ t).length ≤ f + 1 := by rw [← List.length_append]; exact hf
    have hne : frm x ++ (l.flatMap frm ++ t) ≠ [] := fun h => by
      have h2 : (frm x ++ (l.flatMap frm ++ t)).length = 0 := by rw [h]; rfl
      rw [List.length_append] at h2
      omega
    have h1 := fstL_frm x (l.flatMap frm ++ t) hx
    rw [splG, if_neg hne, h1]
    simp only [ne_eq, not_true_eq_false, if_false]
    have hd : (frm x ++ (l.flatMap frm ++ t)).drop (x.length + 10) = l.flatMap frm ++ t := List.drop_left' hfl
    rw [hd, splG_frm l f t (fun y hy => hl y (List.mem_cons_of_mem _ hy)) (by omega)]
    rw [show f + 1 - (x :: l).length = f - l.length by simp]
    simp only [List.cons_append, List.length_append, hfl, Nat.add_assoc]

end Go.Vm
