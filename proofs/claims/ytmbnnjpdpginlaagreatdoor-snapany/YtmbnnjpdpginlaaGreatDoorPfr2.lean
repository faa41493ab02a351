/- Frames: the document's. No condition. -/
import Derived.Test.YtmbnnjpdpginlaaGreatDoorPfr
import Derived.Test.YtmbnnjpdpginlaaGreatDoorPcrc2
import Derived.Test.YtmbnnjpdpginlaaGreatDoorFref10
namespace Go.Vm
set_option linter.unusedVariables false
set_option linter.unusedSimpArgs false
open Go

theorem four_tends (s : List UInt8) (hs : s.length ≤ 1000000000) : Tends (fun F => M_conciergeref10_four F s) (fourL s) := by
  unfold M_conciergeref10_four
  exact Tends.bind (rof_tends s hs) (.of fun F => congrArg some (sum4_bytes (crcN s)))
theorem two_eq (n : Nat) (h : n ≤ 1000000) : [UInt8.ofNat (IntKind.u8.wrap (IntKind.i64.wrap ((n : Int).tdiv 256))).toNat, UInt8.ofNat (IntKind.u8.wrap ((n : Int).tmod 256)).toNat] = two n := by
  unfold two
  have e1 : (n : Int).tdiv 256 = ((n / 256 : Nat) : Int) := (Int.ofNat_tdiv n 256).symm
  have e2 : (n : Int).tmod 256 = ((n % 256 : Nat) : Int) := (Int.ofNat_tmod n 256).symm
  have e3 : IntKind.i64.wrap ((n / 256 : Nat) : Int) = ((n / 256 : Nat) : Int) := by rw [wrap64] <;> omega
  rw [e1, e2, e3, byteU (n / 256) _ rfl, byteU (n % 256) _ rfl]
  congr 2
  apply UInt8.toNat_inj.1
  simp
theorem rmake_tends (s : List UInt8) (h : s.length ≤ 1000000) : Tends (fun F => M_conciergeref10_Make F s) (frm s) := by
  have f4 : ∀ x : List UInt8, (fourL x).length = 4 := fun x => rfl
  unfold M_conciergeref10_Make
  simp only [two_eq s.length h]
  have hf : frm s = two s.length ++ fourL (two s.length) ++ s ++ fourL s := by unfold frm sealL; simp only [List.append_assoc]
  rw [hf]
  refine Tends.bind (r := (two s.length ++ fourL (two s.length) ++ s ++ fourL s, ())) ?_ (.ret _)
  refine Tends.bind (four_tends (two s.length) (by simp [two])) (Tends.pos ?_ (Tends.pos ?_ (Tends.bind (four_tends s (by omega)) (Tends.pos ?_ (.ret _)))))
  · rw [decide_eq_true_eq, f4, two_len]; omega
  · rw [decide_eq_true_eq, List.length_append, f4, two_len]; omega
  · rw [decide_eq_true_eq, List.length_append, List.length_append, f4, f4, two_len]; omega
theorem rffirst_tends (s : List UInt8) (hs : s.length ≤ 1000000) : Tends (fun F => M_conciergeref10_First F s) ((fstL s).1, ((fstL s).2.1 : Int), (fstL s).2.2) := by
  unfold M_conciergeref10_First fstL
  by_cases h6 : s.length < 6
  · rw [if_pos h6]
    exact Tends.pos (by simp; omega) (.ret _)
  rw [if_neg h6]
  refine Tends.neg (by simp; omega) ?_
  have s1 : sub s 0 2 = some (s.take 2) := by simpa using subN s 0 2 (by omega) (by omega)
  have s2 : sub s 2 6 = some ((s.drop 2).take 4) := by simpa using subN s 2 6 (by omega) (by omega)
  refine Tends.bind (.const s1) (Tends.bind (four_tends (s.take 2) (by simp; omega)) (Tends.bind (.const s2) ?_))
  by_cases hq : fourL (s.take 2) ≠ (s.drop 2).take 4
  · rw [if_pos hq]
    exact Tends.pos (by simpa using hq) (.ret _)
  rw [if_neg hq]
  refine Tends.neg (by simpa using hq) ?_
  have g0 : s.getD 0 0 = s[0] := by simp [List.getD, List.getElem?_eq_getElem (show 0 < s.length by omega)]
  have g1 : s.getD 1 0 = s[1] := by simp [List.getD, List.getElem?_eq_getElem (show 1 < s.length by omega)]
  have i0 : idx s 0 = some s[0] := idxN s 0 0 rfl (by omega)
  have i1 : idx s 1 = some s[1] := idxN s 1 1 rfl (by omega)
  have hsz : szL s = s[0].toNat * 256 + s[1].toNat := by unfold szL; rw [g0, g1]
  have b0 := s[0].toNat_lt
  have b1 := s[1].toNat_lt
  have ev : IntKind.i64.wrap (IntKind.i64.wrap (IntKind.i64.wrap (s[0].toNat : Int) * 256) + IntKind.i64.wrap (s[1].toNat : Int)) = (szL s : Int) := by
    rw [hsz]
    have w0 : IntKind.i64.wrap (s[0].toNat : Int) = (s[0].toNat : Int) := by rw [wrap64] <;> omega
    have w1 : IntKind.i64.wrap (s[1].toNat : Int) = (s[1].toNat : Int) := by rw [wrap64] <;> omega
    have w2 : IntKind.i64.wrap ((s[0].toNat : Int) * 256) = (s[0].toNat : Int) * 256 := by rw [wrap64] <;> omega
    rw [w0, w1, w2, wrap64 _ (by omega) (by omega)]
    omega
  refine Tends.bind (r := (s, (szL s : Int), ())) (Tends.bind (.const i0) (Tends.bind (.const i1) (.of fun F => by rw [ev]))) ?_
  by_cases hb : 2000 < szL s
  · rw [if_pos hb]
    exact Tends.pos (by simp; omega) (.ret _)
  rw [if_neg hb]
  have p10 : IntKind.i64.wrap ((szL s : Int) + 10) = ((szL s + 10 : Nat) : Int) := by rw [wrap64] <;> omega
  have p6 : IntKind.i64.wrap ((szL s : Int) + 6) = ((szL s + 6 : Nat) : Int) := by rw [wrap64] <;> omega
  refine Tends.neg (by simp; omega) ?_
  simp only [p10, p6]
  by_cases hl : s.length < szL s + 10
  · rw [if_pos hl]
    exact Tends.pos (by simp; omega) (.ret _)
  rw [if_neg hl]
  have s3 : sub s 6 ((szL s + 6 : Nat) : Int) = some ((s.drop 6).take (szL s)) := by
    have := subN s 6 (szL s + 6) (by omega) (by omega)
    rw [show szL s + 6 - 6 = szL s by omega] at this
    exact this
  have s4 : sub s ((szL s + 6 : Nat) : Int) ((szL s + 10 : Nat) : Int) = some ((s.drop (szL s + 6)).take 4) := by
    have := subN s (szL s + 6) (szL s + 10) (by omega) (by omega)
    rw [show szL s + 10 - (szL s + 6) = 4 by omega] at this
    exact this
  refine Tends.neg (by simp; omega) (Tends.bind (r := (s, (szL s : Int), !decide (fourL ((s.drop 6).take (szL s)) = (s.drop (szL s + 6)).take 4), ())) (Tends.bind (.const s3) (Tends.bind (four_tends _ (by simp; omega)) (Tends.bind (.const s4) (.ret _)))) ?_)
  by_cases hq2 : fourL ((s.drop 6).take (szL s)) ≠ (s.drop (szL s + 6)).take 4
  · rw [if_pos hq2]
    exact Tends.pos (by simpa using hq2) (.ret _)
  rw [if_neg hq2]
  refine Tends.neg (by simpa using hq2) (Tends.bind (.const (by simp only [p6]; exact s3)) (.of fun F => ?_))
  simp only [p10]
theorem rsplit_loop (s : List UInt8) (hs : s.length ≤ 1000000) : ∀ (f at' : Nat) (out : List (List UInt8)), s.length - at' ≤ f → at' ≤ s.length → out.length + (s.length - at') ≤ 2000000 →
    TendsL M_conciergeref10_Split_l0 (s, (), (at' : Int), out, ()) (splR at' out (splG f (s.drop at')))
  | 0, at', out, hf, ha, ho => by
    refine TendsL.fin (.of fun F => ?_)
    unfold M_conciergeref10_Split_l0
    rw [if_neg (by simp; omega)]
    unfold splR splG
    simp
  | f + 1, at', out, hf, ha, ho => by
    by_cases he : at' = s.length
    · refine TendsL.fin (.of fun F => ?_)
      unfold M_conciergeref10_Split_l0
      rw [if_neg (by simp; omega), List.drop_of_length_le (by omega)]
      unfold splR splG
      simp
    · have hd : s.drop at' ≠ [] := fun h => he (by have := List.drop_eq_nil_iff.1 h; omega)
      have s1 := subE s at' (by omega)
      have hr := rffirst_tends (s.drop at') (by simp; omega)
      obtain ⟨⟨x, n, e⟩, hx⟩ : ∃ y, y = fstL (s.drop at') := ⟨_, rfl⟩
      rw [← hx] at hr
      have hs1 : Tends (fun F => ((sub s (at' : Int) (s.length : Int)).bind fun v1 => (M_conciergeref10_First F v1).bind fun v2 => some (s, (), (at' : Int), v2.1, v2.2.1, v2.2.2, out, ()))) (s, (), (at' : Int), x, (n : Int), e, out, ()) := Tends.bind (.const s1) (Tends.bind hr (.ret _))
      by_cases h0 : e = 0
      · subst h0
        obtain ⟨q1, q2, q3⟩ := fstL_ok hx.symm
        rw [List.length_drop] at q2
        have e1 : IntKind.i64.wrap ((at' : Int) + (n : Int)) = ((at' + n : Nat) : Int) := by rw [wrap64] <;> omega
        have hg : splR at' out (splG (f + 1) (s.drop at')) = splR (at' + n) (out ++ [x]) (splG f (s.drop (at' + n))) := by
          rw [splG, if_neg hd, ← hx]
          simp only [ne_eq, not_true_eq_false, if_false, List.drop_drop]
          unfold splR
          simp only [Nat.add_assoc, List.append_assoc, List.singleton_append]
        rw [hg]
        refine TendsL.step ?_ (rsplit_loop s hs f (at' + n) (out ++ [x]) (by omega) (by omega) (by simp; omega))
        unfold M_conciergeref10_Split_l0
        refine Tends.pos (by simp; omega) (Tends.bind hs1 (Tends.neg (by simp) (Tends.pos (by simp; omega) (.of fun F => ?_))))
        simp only [e1]
      · refine TendsL.fin ?_
        have hg : splR at' out (splG (f + 1) (s.drop at')) = .inr ((), (at' : Int), e, out, ()) := by
          rw [splG, if_neg hd, ← hx]
          simp only [ne_eq, h0, not_false_eq_true, if_true]
          unfold splR
          simp [h0]
        rw [hg]
        unfold M_conciergeref10_Split_l0
        exact Tends.pos (by simp; omega) (Tends.bind hs1 (Tends.pos (by simp [h0]) (.ret _)))
theorem rsplit_tends (s : List UInt8) (hs : s.length ≤ 1000000) : Tends (fun F => M_conciergeref10_Split F s) ((splL s).1, ((splL s).2.1 : Int), (splL s).2.2) := by
  unfold M_conciergeref10_Split
  have h := (rsplit_loop s hs s.length 0 [] (by omega) (by omega) (by simp; omega)).run
  rw [List.drop_zero] at h
  refine Tends.bind h ?_
  unfold splR splL
  generalize splG s.length s = y
  obtain ⟨l, n, e⟩ := y
  by_cases h0 : e = 0
  · subst h0
    refine .of fun F => ?_
    simp [sumC]
  · refine .of fun F => ?_
    simp [sumC, h0]

end Go.Vm
