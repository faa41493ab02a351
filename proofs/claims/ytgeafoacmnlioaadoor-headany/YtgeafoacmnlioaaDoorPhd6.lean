/- Heads: the document reads and prints. No condition. -/
import Derived.Test.YtgeafoacmnlioaaDoorPhd5
import Derived.Test.YtgeafoacmnlioaaDoorFref38
namespace Go.Vm
open Go Go.Proofs Go.Lib
set_option linter.unusedVariables false
set_option linter.unusedSimpArgs false
/-! ### lines -/
theorem take_next (s : HB) (k : Nat) (h : k < s.length) : s.take (k + 1) = s.take k ++ [s[k]] := (List.take_append_getElem h).symm
theorem rline_loop (s : HB) (hs : s.length ≤ 1000000) : ∀ (j k : Nat), k + j = s.length →
    TendsL M_conciergeref38_line_l0 (s, (k : Int), ()) (match cutAt 10 (s.drop k) with | none => .inl () | some (a, b) => .inr (noCR (s.take k ++ a), b, true, ()))
  | 0, k, hk => by
    refine TendsL.fin (.of fun F => ?_)
    unfold M_conciergeref38_line_l0
    rw [List.drop_of_length_le (by omega), if_neg (by simp; omega)]
    rfl
  | j + 1, k, hk => by
    have hlt : k < s.length := by omega
    have hd : s.drop k = s[k] :: s.drop (k + 1) := by simp
    rw [hd]
    by_cases h : s[k] = 10
    · have e : cutAt 10 (s[k] :: s.drop (k + 1)) = some ([], s.drop (k + 1)) := by unfold cutAt; rw [if_pos h]
      rw [e]
      refine TendsL.fin (.of fun F => ?_)
      unfold M_conciergeref38_line_l0
      rw [if_pos (by simpa using hlt)]
      have hx : (s[k].toNat : Int) = 10 := by rw [h]; rfl
      have s1 : sub s 0 (k : Int) = some (s.take k) := by
        have := subN8 s 0 k (by omega) (by omega)
        simpa using this
      have s2 : sub s ((k + 1 : Nat) : Int) (s.length : Int) = some (s.drop (k + 1)) := subE s (k + 1) (by omega)
      simp only [idxN s k (k : Int) rfl hlt, Option.bind_some, hx, s1, next_nat k (by omega), s2, List.append_nil]
      rw [if_pos (by decide)]
      by_cases h0 : 0 < k
      · have hw : IntKind.i64.wrap ((k : Int) - 1) = ((k - 1 : Nat) : Int) := by rw [wrap64] <;> omega
        have hi : idx s ((k - 1 : Nat) : Int) = some s[k - 1] := idxN s (k - 1) _ rfl (by omega)
        have s3 : sub s 0 ((k - 1 : Nat) : Int) = some (s.take (k - 1)) := by
          have := subN8 s 0 (k - 1) (by omega) (by omega)
          simpa using this
        have hg : (s.take k).getLast? = some s[k - 1] := by
          have := take_next s (k - 1) (by omega)
          rw [show k - 1 + 1 = k by omega] at this
          rw [this, List.getLast?_concat]
        have hdl : (s.take k).dropLast = s.take (k - 1) := by
          have := take_next s (k - 1) (by omega)
          rw [show k - 1 + 1 = k by omega] at this
          rw [this, List.dropLast_concat]
        simp only [hw, hi, s3, Option.bind_some]
        unfold noCR
        rw [hg, hdl]
        have d0 : decide ((0 : Int) < (k : Int)) = true := decide_eq_true (by omega)
        have hnn := next_nat k (by omega)
        by_cases hc : s[k - 1] = 13
        · have dc : decide ((s[k - 1].toNat : Int) = 13) = true := by rw [hc]; rfl
          rw [if_pos (congrArg some hc)]
          simp only [d0, dc, hw, hi, s3, if_true, Option.bind_some, hnn, s2]
        · have dc : decide ((s[k - 1].toNat : Int) = 13) = false := decide_eq_false fun hq => hc (UInt8.toNat_inj.1 (by show s[k - 1].toNat = 13; omega))
          rw [if_neg (fun hq => hc (Option.some.inj hq))]
          simp only [d0, dc, hw, hi, s3, if_true, Option.bind_some, Bool.false_eq_true, if_false, hnn, s2]
      · have hk0 : k = 0 := by omega
        subst hk0
        have hnn := next_nat 0 (by omega)
        have d0 : decide ((0 : Int) < ((0 : Nat) : Int)) = false := by decide
        simp only [d0, Bool.false_eq_true, if_false, Option.bind_some, hnn, s2]
        rfl
    · have e : cutAt 10 (s[k] :: s.drop (k + 1)) = (cutAt 10 (s.drop (k + 1))).map fun x => (s[k] :: x.1, x.2) := by conv => lhs; unfold cutAt; rw [if_neg h]
      rw [e]
      have ih := rline_loop s hs j (k + 1) (by omega)
      refine TendsL.step (x' := (s, ((k + 1 : Nat) : Int), ())) (.of fun F => ?_) ?_
      · unfold M_conciergeref38_line_l0
        rw [if_pos (by simpa using hlt)]
        have hx : ¬ (s[k].toNat : Int) = 10 := fun hq => h (UInt8.toNat_inj.1 (by show s[k].toNat = 10; omega))
        simp only [idxN s k (k : Int) rfl hlt, Option.bind_some, next_nat k (by omega)]
        rw [if_neg (by simpa using hx)]
      · cases hq : cutAt 10 (s.drop (k + 1)) with
        | none => rw [hq] at ih; exact ih
        | some y =>
          obtain ⟨a, b⟩ := y
          rw [hq] at ih
          simp only [Option.map_some]
          have e2 : noCR (s.take (k + 1) ++ a) = noCR (s.take k ++ s[k] :: a) := by rw [take_next s k hlt, List.append_assoc]; rfl
          rw [← e2]
          exact ih
def lineQ (s : HB) : HB × HB × Bool := match lineP s with
  | some (x, r) => (x, r, true)
  | none => ([], [], false)
theorem rline_t (s : HB) (hs : s.length ≤ 1000000) : Tends (fun F => M_conciergeref38_line F s) (lineQ s) := by
  have h := rline_loop s hs s.length 0 (by omega)
  rw [List.drop_zero, List.take_zero] at h
  unfold M_conciergeref38_line lineQ lineP
  refine Tends.bind h.run ?_
  cases cutAt 10 s with
  | none => exact .ret _
  | some y => exact .ret _
/-! ### letters -/
theorem rfold_step (F : Nat) (s out : HB) (k : Nat) (hk : k < s.length) (hs : s.length ≤ 1000000) (ho : out.length ≤ 1000000) : M_conciergeref38_Fold_l0 F (s, out, (k : Int), ()) = some (.inl (s, out ++ [foldC s[k]], ((k + 1 : Nat) : Int), ())) := by
  unfold M_conciergeref38_Fold_l0
  rw [if_pos (by simpa using hk)]
  simp only [idxN s k (k : Int) rfl hk, Option.bind_some]
  generalize s[k] = c
  have hu : (65 ≤ c.toNat ∧ c.toNat ≤ 90) → UInt8.ofNat (IntKind.u8.wrap ((c.toNat : Int) + 32)).toNat = UInt8.ofNat (c.toNat + 32) := by
    intro h
    have := (show ∀ c : Fin 256, UInt8.ofNat (IntKind.u8.wrap (((c.val : Nat) : Int) + 32)).toNat = UInt8.ofNat (c.val + 32) by decide +kernel) ⟨c.toNat, c.toNat_lt⟩
    exact this
  unfold foldC
  have lh : out.length + 1 ≤ 9223372036854775807 := by omega
  have hn := next_nat k (by omega)
  by_cases h1 : 65 ≤ c.toNat
  · by_cases h2 : c.toNat ≤ 90
    · have e1 : decide ((65 : Int) ≤ (c.toNat : Int)) = true := decide_eq_true (by omega)
      have e2 : decide ((c.toNat : Int) ≤ 90) = true := decide_eq_true (by omega)
      have hq : 65 ≤ c.toNat ∧ c.toNat ≤ 90 := ⟨h1, h2⟩
      rw [if_pos hq]
      simp only [e1, e2, if_true, Option.bind_some, hu hq, hn]
      rw [if_pos (by simp; omega)]
    · have e1 : decide ((65 : Int) ≤ (c.toNat : Int)) = true := decide_eq_true (by omega)
      have e2 : decide ((c.toNat : Int) ≤ 90) = false := decide_eq_false (by omega)
      have hq : ¬ (65 ≤ c.toNat ∧ c.toNat ≤ 90) := fun h => h2 h.2
      rw [if_neg hq]
      simp only [e1, e2, if_true, Option.bind_some, Bool.false_eq_true, if_false, Int.toNat_natCast, UInt8.ofNat_toNat, hn]
      rw [if_pos (by simp; omega)]
  · have e1 : decide ((65 : Int) ≤ (c.toNat : Int)) = false := decide_eq_false (by omega)
    have hq : ¬ (65 ≤ c.toNat ∧ c.toNat ≤ 90) := fun h => h1 h.1
    rw [if_neg hq]
    simp only [e1, Option.bind_some, Bool.false_eq_true, if_false, Int.toNat_natCast, UInt8.ofNat_toNat, hn]
    rw [if_pos (by simp; omega)]
theorem rfold_loop (s : HB) (hs : s.length ≤ 1000000) : ∀ (j k : Nat) (out : HB), k + j = s.length → out.length = k → TendsL M_conciergeref38_Fold_l0 (s, out, (k : Int), ()) (out ++ foldB (s.drop k), ())
  | 0, k, out, hk, ho => by
    refine TendsL.fin (.of fun F => ?_)
    unfold M_conciergeref38_Fold_l0
    rw [List.drop_of_length_le (by omega), if_neg (by simp; omega)]
    simp [foldB]
  | j + 1, k, out, hk, ho => by
    have hlt : k < s.length := by omega
    have hd : s.drop k = s[k] :: s.drop (k + 1) := by simp
    have ih := rfold_loop s hs j (k + 1) (out ++ [foldC s[k]]) (by omega) (by simp; omega)
    refine TendsL.step (.of fun F => rfold_step F s out k hlt hs (by omega)) ?_
    rw [hd]
    unfold foldB at ih ⊢
    rw [List.map_cons, show out ++ foldC s[k] :: (s.drop (k + 1)).map foldC = (out ++ [foldC s[k]]) ++ (s.drop (k + 1)).map foldC by simp]
    exact ih
theorem rfold_t (s : HB) (hs : s.length ≤ 1000000) : Tends (fun F => M_conciergeref38_Fold F s) (foldB s) := by
  have h := rfold_loop s hs s.length 0 [] (by omega) rfl
  rw [List.drop_zero, List.nil_append] at h
  unfold M_conciergeref38_Fold
  exact Tends.bind h.run (.ret _)
theorem rname_loop (s : HB) (hs : s.length ≤ 1000000) : ∀ (j k : Nat), k + j = s.length → TendsL M_conciergeref38_name_l0 (s, (k : Int), ()) (if ((foldB (s.drop k)).all ltrB) = true then .inl (s, ()) else .inr (false, ()))
  | 0, k, hk => by
    refine TendsL.fin (.of fun F => ?_)
    unfold M_conciergeref38_name_l0
    rw [List.drop_of_length_le (by omega), if_neg (by simp; omega)]
    rfl
  | j + 1, k, hk => by
    have hlt : k < s.length := by omega
    have hd : s.drop k = s[k] :: s.drop (k + 1) := by simp
    have s1 : sub s (k : Int) (IntKind.i64.wrap ((k : Int) + 1)) = some [s[k]] := by
      rw [next_nat k (by omega), subN8 s k (k + 1) (by omega) (by omega), show k + 1 - k = 1 by omega, hd]
      rfl
    have hf := rfold_t [s[k]] (by simp)
    have hst : Tends (fun F => M_conciergeref38_name_l0 F (s, (k : Int), ())) (if ltrB (foldC s[k]) = true then .inl (s, ((k + 1 : Nat) : Int), ()) else .inr (.inr (false, ()))) := by
      unfold M_conciergeref38_name_l0
      refine Tends.pos (by simpa using hlt) (Tends.bind (.const s1) (Tends.bind hf ?_))
      refine Tends.bind (r := foldC s[k]) (.of fun F => rfl) ?_
      generalize foldC s[k] = c
      refine Tends.bind (Tends.andB (c := decide ((97 : Int) ≤ (c.toNat : Int))) (d := decide ((c.toNat : Int) ≤ 122)) (f := fun q => (s, (k : Int), (c.toNat : Int), q, ())) (fun _ => .ret _)) ?_
      refine Tends.bind (Tends.orB (c := decide ((97 : Int) ≤ (c.toNat : Int)) && decide ((c.toNat : Int) ≤ 122)) (d := decide ((48 : Int) ≤ (c.toNat : Int)) && decide ((c.toNat : Int) ≤ 57)) (f := fun q => (s, (k : Int), (c.toNat : Int), q, ())) (Tends.andB (c := decide ((48 : Int) ≤ (c.toNat : Int))) (d := decide ((c.toNat : Int) ≤ 57)) (f := fun q => (s, (k : Int), (c.toNat : Int), q, ())) (fun _ => .ret _))) ?_
      refine Tends.bind (Tends.orB (c := (decide ((97 : Int) ≤ (c.toNat : Int)) && decide ((c.toNat : Int) ≤ 122)) || (decide ((48 : Int) ≤ (c.toNat : Int)) && decide ((c.toNat : Int) ≤ 57))) (d := decide ((c.toNat : Int) = 45)) (f := fun q => (s, (k : Int), q, ())) (.ret _)) ?_
      have e : (((decide ((97 : Int) ≤ (c.toNat : Int)) && decide ((c.toNat : Int) ≤ 122)) || (decide ((48 : Int) ≤ (c.toNat : Int)) && decide ((c.toNat : Int) ≤ 57))) || decide ((c.toNat : Int) = 45)) = ltrB c := by
        have := (show ∀ c : Fin 256, (((decide ((97 : Int) ≤ ((c.val : Nat) : Int)) && decide (((c.val : Nat) : Int) ≤ 122)) || (decide ((48 : Int) ≤ ((c.val : Nat) : Int)) && decide (((c.val : Nat) : Int) ≤ 57))) || decide (((c.val : Nat) : Int) = 45)) = ltrB (UInt8.ofNat c.val) by decide +kernel) ⟨c.toNat, c.toNat_lt⟩
        simpa using this
      rw [e]
      cases ltrB c with
      | true =>
        rw [if_pos rfl]
        exact Tends.neg (by simp) (.of fun F => by rw [next_nat k (by omega)])
      | false => exact Tends.pos rfl (.ret _)
    have hfd : foldB (s.drop k) = foldC s[k] :: foldB (s.drop (k + 1)) := by rw [hd]; rfl
    rw [hfd, List.all_cons]
    cases hb : ltrB (foldC s[k]) with
    | true =>
      rw [hb, if_pos rfl] at hst
      rw [Bool.true_and]
      exact TendsL.step hst (rname_loop s hs j (k + 1) (by omega))
    | false =>
      rw [hb, if_neg (by simp)] at hst
      rw [Bool.false_and]
      exact TendsL.fin hst
theorem rname_t (s : HB) (hs : s.length ≤ 1000000) : Tends (fun F => M_conciergeref38_name F s) (hnB (foldB s)) := by
  have h := rname_loop s hs s.length 0 (by omega)
  rw [List.drop_zero] at h
  unfold M_conciergeref38_name hnB
  refine Tends.bind h.run ?_
  have hl : (foldB s).length = s.length := by unfold foldB; simp
  cases hb : (foldB s).all ltrB with
  | false => exact .ret _
  | true =>
    rw [if_pos rfl, hl, Bool.true_and]
    refine Tends.bind (Tends.andB (c := decide ((1 : Int) ≤ (s.length : Int))) (d := decide ((s.length : Int) ≤ 20)) (f := fun q => (q, ())) (fun _ => .ret _)) (.of fun F => ?_)
    have e1 : decide ((1 : Int) ≤ (s.length : Int)) = decide (1 ≤ s.length) := by rw [decide_eq_decide]; omega
    have e2 : decide ((s.length : Int) ≤ 20) = decide (s.length ≤ 20) := by rw [decide_eq_decide]; omega
    rw [e1, e2]
/-! ### trimming, values, places -/
theorem is32 (c : UInt8) : decide ((c.toNat : Int) = 32) = decide (c = 32) := by
  rw [decide_eq_decide]
  exact ⟨fun hq => UInt8.toNat_inj.1 (by show c.toNat = 32; omega), fun hq => by rw [hq]; rfl⟩
theorem is9 (c : UInt8) : decide ((c.toNat : Int) = 9) = decide (c = 9) := by
  rw [decide_eq_decide]
  exact ⟨fun hq => UInt8.toNat_inj.1 (by show c.toNat = 9; omega), fun hq => by rw [hq]; rfl⟩
theorem rtrim0 : ∀ (n : Nat) (s : HB), s.length ≤ n → n ≤ 1000000 → TendsL M_conciergeref38_trim_l0 (s, ()) (trimL s, ())
  | n, [], _, _ => TendsL.fin (.of fun F => rfl)
  | 0, c :: s, h, _ => by simp at h
  | n + 1, c :: s, h, hn => by
    have hi : idx (c :: s) (0 : Int) = some c := rfl
    have s1 : sub (c :: s) 1 ((c :: s).length : Int) = some s := by
      have := subE (c :: s) 1 (by simp)
      simpa using this
    have hst : ∀ F, M_conciergeref38_trim_l0 F (c :: s, ()) = if blB c = true then some (.inl (s, ())) else some (.inr (c :: s, ())) := by
      intro F
      unfold M_conciergeref38_trim_l0
      have d0 : decide ((0 : Int) < ((c :: s).length : Int)) = true := decide_eq_true (by simp)
      simp only [d0, hi, if_true, Option.bind_some, is32, is9]
      unfold blB
      cases decide (c = 32) <;> cases decide (c = 9) <;> simp only [if_true, Bool.false_eq_true, if_false, Bool.true_eq_false, Option.bind_some, s1, Bool.or_true, Bool.true_or, Bool.or_self]
    by_cases hb : blB c = true
    · rw [trimL_cons hb]
      exact TendsL.step (.of fun F => by rw [hst, if_pos hb]) (rtrim0 n s (by simp at h; omega) (by omega))
    · have e : trimL (c :: s) = c :: s := by unfold trimL; rw [List.dropWhile_cons_of_neg hb]
      rw [e]
      exact TendsL.fin (.of fun F => by rw [hst, if_neg hb])
theorem rtrim1 : ∀ (n : Nat) (s : HB), s.length ≤ n → n ≤ 1000000 → TendsL M_conciergeref38_trim_l1 (s, ()) ((trimL s.reverse).reverse, ())
  | n, s, h, hn => by
    rcases List.eq_nil_or_concat s with rfl | ⟨a, c, hac⟩
    · exact TendsL.fin (.of fun F => rfl)
    · rw [List.concat_eq_append] at hac
      subst hac
      match n, h with
      | 0, h => simp at h
      | n + 1, h =>
        have hl : (a ++ [c]).length = a.length + 1 := by simp
        have hw : IntKind.i64.wrap (((a ++ [c]).length : Int) - 1) = (a.length : Int) := by rw [hl, wrap64] <;> omega
        have hi : idx (a ++ [c]) (a.length : Int) = some c := by
          rw [idxN (a ++ [c]) a.length _ rfl (by omega)]; simp
        have s1 : sub (a ++ [c]) 0 (a.length : Int) = some a := by
          have := subN8 (a ++ [c]) 0 a.length (by omega) (by omega)
          simpa using this
        have hst : ∀ F, M_conciergeref38_trim_l1 F (a ++ [c], ()) = if blB c = true then some (.inl (a, ())) else some (.inr (a ++ [c], ())) := by
          intro F
          unfold M_conciergeref38_trim_l1
          have d0 : decide ((0 : Int) < ((a ++ [c]).length : Int)) = true := decide_eq_true (by simp)
          simp only [d0, hw, hi, if_true, Option.bind_some, is32, is9]
          unfold blB
          cases decide (c = 32) <;> cases decide (c = 9) <;> simp only [if_true, Bool.false_eq_true, if_false, Bool.true_eq_false, Option.bind_some, hw, s1, Bool.or_true, Bool.true_or, Bool.or_self]
        have hrev : (a ++ [c]).reverse = c :: a.reverse := by simp
        rw [hrev]
        by_cases hb : blB c = true
        · rw [trimL_cons hb]
          exact TendsL.step (.of fun F => by rw [hst, if_pos hb]) (rtrim1 n a (by omega) (by omega))
        · have e : trimL (c :: a.reverse) = c :: a.reverse := by unfold trimL; rw [List.dropWhile_cons_of_neg hb]
          rw [e, show (c :: a.reverse).reverse = a ++ [c] by simp]
          exact TendsL.fin (.of fun F => by rw [hst, if_neg hb])
theorem rtrim_t (s : HB) (hs : s.length ≤ 1000000) : Tends (fun F => M_conciergeref38_trim F s) (trimB s) := by
  unfold M_conciergeref38_trim trimB
  have hl := trimL_len s
  exact Tends.bind (rtrim0 s.length s (Nat.le_refl _) hs).run (Tends.bind (rtrim1 (trimL s).length (trimL s) (Nat.le_refl _) (by omega)).run (.ret _))
theorem rvalue_t (s : HB) (hs : s.length ≤ 1000000) : Tends (fun F => M_conciergeref38_value F s) (vokH s) := by
  unfold M_conciergeref38_value vokH
  exact Tends.bind (Tends.orB (c := decide (s = [])) (d := rightB s 60) (f := fun q => (q, ())) (Tends.bind (refRight_tends s (by omega) 60) (.ret _))) (.ret _)
def atP (c : UInt8) (s : HB) : Nat := match cutAt c s with
  | some (a, _) => a.length
  | none => s.length
theorem rat_loop (c : UInt8) (s : HB) (hs : s.length ≤ 1000000) : ∀ (j k : Nat), k + j = s.length → TendsL M_conciergeref38_at_l0 (s, (c.toNat : Int), (k : Int), ()) (match cutAt c (s.drop k) with | none => .inl (s, ()) | some (a, _) => .inr (((k + a.length : Nat) : Int), ()))
  | 0, k, hk => by
    refine TendsL.fin (.of fun F => ?_)
    unfold M_conciergeref38_at_l0
    rw [List.drop_of_length_le (by omega), if_neg (by simp; omega)]
    rfl
  | j + 1, k, hk => by
    have hlt : k < s.length := by omega
    have hd : s.drop k = s[k] :: s.drop (k + 1) := by simp
    rw [hd]
    have hst : ∀ F, M_conciergeref38_at_l0 F (s, (c.toNat : Int), (k : Int), ()) = if s[k] = c then some (.inr (.inr ((k : Int), ()))) else some (.inl (s, (c.toNat : Int), ((k + 1 : Nat) : Int), ())) := by
      intro F
      unfold M_conciergeref38_at_l0
      rw [if_pos (by simpa using hlt)]
      simp only [idxN s k (k : Int) rfl hlt, Option.bind_some, next_nat k (by omega)]
      by_cases h : s[k] = c
      · rw [if_pos (by rw [h]; simp), if_pos h]
      · rw [if_neg (by rw [decide_eq_true_eq]; intro hq; exact h (UInt8.toNat_inj.1 (by omega))), if_neg h]
    by_cases h : s[k] = c
    · have e : cutAt c (s[k] :: s.drop (k + 1)) = some ([], s.drop (k + 1)) := by unfold cutAt; rw [if_pos h]
      rw [e]
      exact TendsL.fin (.of fun F => by rw [hst, if_pos h]; rfl)
    · have e : cutAt c (s[k] :: s.drop (k + 1)) = (cutAt c (s.drop (k + 1))).map fun x => (s[k] :: x.1, x.2) := by conv => lhs; unfold cutAt; rw [if_neg h]
      rw [e]
      have ih := rat_loop c s hs j (k + 1) (by omega)
      refine TendsL.step (.of fun F => by rw [hst, if_neg h]) ?_
      cases hq : cutAt c (s.drop (k + 1)) with
      | none => rw [hq] at ih; exact ih
      | some y =>
        obtain ⟨a, b⟩ := y
        rw [hq] at ih
        simp only [Option.map_some]
        have e2 : k + (s[k] :: a).length = k + 1 + a.length := by simp; omega
        rw [e2]
        exact ih
theorem rat_t (c : UInt8) (s : HB) (hs : s.length ≤ 1000000) : Tends (fun F => M_conciergeref38_at F (s, (c.toNat : Int))) (atP c s : Nat) := by
  have h := rat_loop c s hs s.length 0 (by omega)
  rw [List.drop_zero] at h
  unfold M_conciergeref38_at atP
  refine Tends.bind h.run ?_
  cases cutAt c s with
  | none => exact .ret _
  | some y => exact .of fun F => by simp [sumC]
end Go.Vm
