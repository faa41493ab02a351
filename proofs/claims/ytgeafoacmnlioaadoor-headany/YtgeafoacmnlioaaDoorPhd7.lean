/- Heads: the document reads a head; a request. No condition. -/
import Derived.Test.YtgeafoacmnlioaaDoorPhd6
namespace Go.Vm
open Go Go.Proofs Go.Lib
set_option linter.unusedVariables false
set_option linter.unusedSimpArgs false
abbrev zH4 : HB × HB × HB × List HdF × Unit := ([], [], [], [], ())
theorem dup_loop (x rest n m p b : HB) (q : Int) (fs : List HdF) (hf : fs.length ≤ 1000000) : ∀ (j k : Nat), k + j = fs.length →
    TendsL M_conciergeref38_Read_l0 ((), x, rest, q, (), n, (k : Int), zH4, (m, p, b, (), ()), fs, ()) (if ((fs.drop k).any fun f => decide (f.1 = n)) = true then .inr ((), 7, zH4, ()) else .inl ((), x, rest, q, (), n, zH4, (m, p, b, (), ()), fs, ()))
  | 0, k, hk => by
    refine TendsL.fin (.of fun F => ?_)
    unfold M_conciergeref38_Read_l0
    rw [List.drop_of_length_le (by omega), if_neg (by simp; omega)]
    rfl
  | j + 1, k, hk => by
    have hlt : k < fs.length := by omega
    have hd : fs.drop k = fs[k] :: fs.drop (k + 1) := by simp
    rw [hd, List.any_cons]
    have hst : ∀ F, M_conciergeref38_Read_l0 F ((), x, rest, q, (), n, (k : Int), zH4, (m, p, b, (), ()), fs, ()) = if fs[k].1 = n then some (.inr (.inr ((), 7, zH4, ()))) else some (.inl ((), x, rest, q, (), n, ((k + 1 : Nat) : Int), zH4, (m, p, b, (), ()), fs, ())) := by
      intro F
      unfold M_conciergeref38_Read_l0
      rw [if_pos (by simpa using hlt)]
      simp only [idxN fs k (k : Int) rfl hlt, Option.bind_some, next_nat k (by omega)]
      by_cases h : fs[k].1 = n
      · rw [if_pos (decide_eq_true h), if_pos h]
      · rw [if_neg (by simpa using h), if_neg h]
    by_cases h : fs[k].1 = n
    · rw [decide_eq_true h, Bool.true_or]
      exact TendsL.fin (.of fun F => by rw [hst, if_pos h]; rfl)
    · rw [decide_eq_false h, Bool.false_or]
      exact TendsL.step (.of fun F => by rw [hst, if_neg h]) (dup_loop x rest n m p b q fs hf j (k + 1) (by omega))
def rdHd (m p : HB) (r : (List HdF × HB) × Int) : Unit × Int × (HB × HB × HB × List HdF × Unit) × Unit := if r.2 = 0 then ((), 0, (m, p, r.1.2, r.1.1, ()), ()) else ((), r.2, zH4, ())
theorem rfields_step (m p b s x r : HB) (fs : List HdF) (hs : s.length ≤ 10000) (hf : fs.length ≤ 50000) (hq : lineP s = some (x, r)) (hx0 : x ≠ []) :
    Tends (fun F => M_conciergeref38_Read_l1 F ((), s, (), zH4, (m, p, b, (), ()), fs, ())) (if (oneP vokH fs x).2 = 0 then .inl ((), r, (), zH4, (m, p, b, (), ()), (oneP vokH fs x).1, ()) else .inr ((), (oneP vokH fs x).2, zH4, ())) := by
  have hl := rline_t s (by omega)
  unfold lineQ at hl
  rw [hq] at hl
  obtain ⟨hx, hr⟩ := lineP_len hq
  unfold M_conciergeref38_Read_l1
  refine Tends.bind hl (Tends.neg (by simp) (Tends.neg (by simpa using hx0) ?_))
  have hat := rat_t 58 x (by omega)
  refine Tends.bind (m := fun F => M_conciergeref38_at F (x, 58)) hat ?_
  unfold atP oneP
  cases hc : cutAt 58 x with
  | none =>
    simp only
    refine Tends.bind (r := ((), x, r, (x.length : Int), (), true, zH4, (m, p, b, (), ()), fs, ())) (Tends.neg (by simp) (.ret _)) ?_
    exact Tends.bind (r := ((), x, r, (x.length : Int), (), true, zH4, (m, p, b, (), ()), fs, ())) (Tends.neg (by simp) (.ret _)) (Tends.pos rfl (.ret _))
  | some y =>
    obtain ⟨n0, v0⟩ := y
    obtain ⟨hxe, _⟩ := cutAt_some _ _ _ hc
    have hxl : x.length = n0.length + 1 + v0.length := by rw [hxe]; simp; omega
    have s1 : sub x 0 (n0.length : Int) = some n0 := by
      have := subN8 x 0 n0.length (by omega) (by omega)
      rw [hxe] at this ⊢
      simpa using this
    have hw : IntKind.i64.wrap ((n0.length : Int) + 1) = ((n0.length + 1 : Nat) : Int) := next_nat _ (by omega)
    have s2 : sub x (IntKind.i64.wrap ((n0.length : Int) + 1)) (x.length : Int) = some v0 := by
      rw [hw, subE x (n0.length + 1) (by omega), hxe]
      simp
    simp only
    refine Tends.bind (r := ((), x, r, (n0.length : Int), (), !hnB (foldB n0), zH4, (m, p, b, (), ()), fs, ())) (Tends.pos (decide_eq_false (by omega)) (Tends.bind (.const s1) (Tends.bind (rname_t n0 (by omega)) (.ret _)))) ?_
    refine Tends.bind (r := ((), x, r, (n0.length : Int), (), !hnB (foldB n0) || !vokH (trimB v0), zH4, (m, p, b, (), ()), fs, ())) ?_ ?_
    · have htl := trimB_len v0
      exact Tends.orB (c := !hnB (foldB n0)) (d := !vokH (trimB v0)) (f := fun q => ((), x, r, (n0.length : Int), (), q, zH4, (m, p, b, (), ()), fs, ())) (Tends.bind (.const s2) (Tends.bind (rtrim_t v0 (by omega)) (Tends.bind (rvalue_t (trimB v0) (by omega)) (.ret _))))
    have e : (hnB (foldB n0) && vokH (trimB v0)) = !(!hnB (foldB n0) || !vokH (trimB v0)) := by cases hnB (foldB n0) <;> cases vokH (trimB v0) <;> rfl
    rw [e]
    cases hb : (!hnB (foldB n0) || !vokH (trimB v0)) with
    | true => exact Tends.pos rfl (.ret _)
    | false =>
      refine Tends.neg (by simp) (Tends.bind (.const s1) (Tends.bind (rfold_t n0 (by omega)) ?_))
      have hd := dup_loop x r (foldB n0) m p b (n0.length : Int) fs (by omega) fs.length 0 (by omega)
      rw [List.drop_zero] at hd
      refine Tends.bind hd.run ?_
      cases ha : (fs.any fun f => decide (f.1 = foldB n0)) with
      | true => exact .of fun F => rfl
      | false =>
        have htl := trimB_len v0
        refine Tends.bind (m := fun F => sub x (IntKind.i64.wrap ((n0.length : Int) + 1)) (x.length : Int)) (.const s2) (Tends.bind (rtrim_t v0 (by omega)) ?_)
        exact Tends.pos (by simp; omega) (.ret _)
theorem rfields_loop (m p b : HB) : ∀ (n : Nat) (s : HB) (fs : List HdF), s.length < n → s.length ≤ 10000 → fs.length + n ≤ 50000 → TendsL M_conciergeref38_Read_l1 ((), s, (), zH4, (m, p, b, (), ()), fs, ()) (rdHd m p (fieldsP vokH n s fs))
  | 0, s, fs, h, _, _ => by omega
  | n + 1, s, fs, h, hs, hf => by
    unfold fieldsP
    cases hq : lineP s with
    | none =>
      have hl := rline_t s (by omega)
      unfold lineQ at hl
      rw [hq] at hl
      refine TendsL.fin ?_
      unfold M_conciergeref38_Read_l1
      exact Tends.bind hl (Tends.pos rfl (.ret _))
    | some y =>
      obtain ⟨x, r⟩ := y
      obtain ⟨hx, hr⟩ := lineP_len hq
      simp only
      by_cases hx0 : x = []
      · subst hx0
        have hl := rline_t s (by omega)
        unfold lineQ at hl
        rw [hq] at hl
        refine TendsL.fin ?_
        unfold M_conciergeref38_Read_l1
        exact Tends.bind hl (Tends.neg (by simp) (Tends.pos rfl (.ret _)))
      · rw [if_neg hx0]
        have hst := rfields_step m p b s x r fs hs (by omega) hq hx0
        by_cases h0 : (oneP vokH fs x).2 = 0
        · rw [if_pos h0] at hst ⊢
          have hfl : (oneP vokH fs x).1.length = fs.length + 1 := by
            obtain ⟨_, _, _, _, e⟩ := oneP_zero h0
            rw [e]; simp
          exact TendsL.step hst (rfields_loop m p b n r (oneP vokH fs x).1 (by omega) (by omega) (by omega))
        · rw [if_neg h0] at hst ⊢
          have e : rdHd m p (([], []), (oneP vokH fs x).2) = ((), (oneP vokH fs x).2, zH4, ()) := by unfold rdHd; rw [if_neg h0]
          rw [e]
          exact TendsL.fin hst
def rdQ (r : HdT × Int) : (HB × HB × HB × List HdF × Unit) × Int := ((r.1.1, r.1.2.1, r.1.2.2.1, r.1.2.2.2, ()), r.2)
theorem rread_t (s : HB) (hs : s.length ≤ 10000) : Tends (fun F => M_conciergeref38_Read F s) (rdQ (readP vokH s)) := by
  unfold M_conciergeref38_Read readP
  by_cases h6 : 600 < s.length
  · rw [if_pos h6]
    exact Tends.pos (by simp; omega) (.ret _)
  rw [if_neg h6]
  refine Tends.neg (by simp; omega) ?_
  have hl := rline_t s (by omega)
  unfold lineQ at hl
  cases hq : lineP s with
  | none =>
    rw [hq] at hl
    have hat := rat_t 32 [] (by simp)
    refine Tends.bind hl (Tends.bind (m := fun F => M_conciergeref38_at F (([] : HB), 32)) hat ?_)
    refine Tends.bind (r := ((), [], [], 0, true, zH4, ())) (Tends.neg (by simp) (.ret _)) ?_
    exact Tends.bind (r := ((), [], [], 0, true, zH4, ())) (Tends.neg (by simp) (.ret _)) (Tends.pos rfl (.ret _))
  | some y =>
    obtain ⟨x, r⟩ := y
    rw [hq] at hl
    obtain ⟨hx, hr⟩ := lineP_len hq
    have hat := rat_t 32 x (by omega)
    refine Tends.bind hl (Tends.bind (m := fun F => M_conciergeref38_at F (x, 32)) hat ?_)
    have hw1 : IntKind.i64.wrap ((x.length : Int) - 1) = (x.length : Int) - 1 := by rw [wrap64] <;> omega
    refine Tends.bind (r := ((), x, r, ((atP 32 x : Nat) : Int), decide (((atP 32 x : Nat) : Int) = 0), zH4, ())) (Tends.pos (by simp) (.ret _)) ?_
    refine Tends.bind (Tends.orB (c := decide (((atP 32 x : Nat) : Int) = 0)) (d := decide (IntKind.i64.wrap ((x.length : Int) - 1) ≤ ((atP 32 x : Nat) : Int))) (f := fun q => ((), x, r, ((atP 32 x : Nat) : Int), q, zH4, ())) (.ret _)) ?_
    rw [hw1]
    simp only
    unfold firstP
    cases hc : cutAt 32 x with
    | none =>
      have ha : atP 32 x = x.length := by unfold atP; rw [hc]
      rw [ha]
      exact Tends.pos (by rw [Bool.or_eq_true, decide_eq_true_eq, decide_eq_true_eq]; right; omega) (.ret _)
    | some mp =>
      obtain ⟨m, p⟩ := mp
      obtain ⟨hxe, _⟩ := cutAt_some _ _ _ hc
      have hxl : x.length = m.length + 1 + p.length := by rw [hxe]; simp; omega
      have ha : atP 32 x = m.length := by unfold atP; rw [hc]
      rw [ha]
      simp only
      by_cases hmp : m = [] ∨ p = []
      · rw [if_pos hmp]
        refine Tends.pos ?_ (.ret _)
        rcases hmp with rfl | rfl
        · simp
        · simp at hxl
          simp
          omega
      · rw [if_neg hmp]
        have hm : m.length ≠ 0 := fun h => hmp (.inl (List.length_eq_zero_iff.1 h))
        have hp : p.length ≠ 0 := fun h => hmp (.inr (List.length_eq_zero_iff.1 h))
        refine Tends.neg (by
          rw [Bool.or_eq_true, decide_eq_true_eq, decide_eq_true_eq]
          omega) ?_
        have s1 : sub x 0 (m.length : Int) = some m := by
          have := subN8 x 0 m.length (by omega) (by omega)
          rw [hxe] at this ⊢
          simpa using this
        have s2 : sub x (IntKind.i64.wrap ((m.length : Int) + 1)) (x.length : Int) = some p := by
          rw [next_nat _ (by omega), subE x (m.length + 1) (by omega), hxe]
          simp
        refine Tends.bind (r := ((), r, (), zH4, (m, p, [], (), ()), [], ())) (Tends.bind (.const s1) (Tends.bind (.const s2) (.ret _))) ?_
        have h := rfields_loop m p [] (r.length + 1) r [] (by omega) (by omega) (by simp; omega)
        refine Tends.bind h.run (.of fun F => ?_)
        unfold rdHd rdQ
        by_cases h0 : (fieldsP vokH (r.length + 1) r []).2 = 0
        · simp [h0]
        · simp [h0]
theorem rget_loop (n m p b : HB) (fs : List HdF) (hf : fs.length ≤ 1000000) : ∀ (j k : Nat), k + j = fs.length →
    TendsL M_conciergeref38_Get_l0 (n, (), (k : Int), (m, p, b, fs, ()), ()) (if (getP n (fs.drop k)).2 = true then .inr ((getP n (fs.drop k)).1, true, ()) else .inl ())
  | 0, k, hk => by
    refine TendsL.fin (.of fun F => ?_)
    unfold M_conciergeref38_Get_l0
    rw [List.drop_of_length_le (by omega), if_neg (by simp; omega)]
    rfl
  | j + 1, k, hk => by
    have hlt : k < fs.length := by omega
    have hd : fs.drop k = fs[k] :: fs.drop (k + 1) := by simp
    rw [hd]
    have hst : ∀ F, M_conciergeref38_Get_l0 F (n, (), (k : Int), (m, p, b, fs, ()), ()) = if fs[k].1 = n then some (.inr (.inr (fs[k].2.1, true, ()))) else some (.inl (n, (), ((k + 1 : Nat) : Int), (m, p, b, fs, ()), ())) := by
      intro F
      unfold M_conciergeref38_Get_l0
      rw [if_pos (by simpa using hlt)]
      simp only [idxN fs k (k : Int) rfl hlt, Option.bind_some, next_nat k (by omega)]
      by_cases h : fs[k].1 = n
      · rw [if_pos (decide_eq_true h), if_pos h]
      · rw [if_neg (by simpa using h), if_neg h]
    by_cases h : fs[k].1 = n
    · have e : getP n (fs[k] :: fs.drop (k + 1)) = (fs[k].2.1, true) := by unfold getP; rw [if_pos h]
      rw [e]
      exact TendsL.fin (.of fun F => by rw [hst, if_pos h]; rfl)
    · have e : getP n (fs[k] :: fs.drop (k + 1)) = getP n (fs.drop (k + 1)) := by conv => lhs; unfold getP; rw [if_neg h]
      rw [e]
      exact TendsL.step (.of fun F => by rw [hst, if_neg h]) (rget_loop n m p b fs hf j (k + 1) (by omega))
theorem rget_t (n m p b : HB) (fs : List HdF) (hf : fs.length ≤ 1000000) : Tends (fun F => M_conciergeref38_Get F ((m, p, b, fs, ()), n)) (getP n fs) := by
  have h := rget_loop n m p b fs hf fs.length 0 (by omega)
  rw [List.drop_zero] at h
  unfold M_conciergeref38_Get
  refine Tends.bind h.run (.of fun F => ?_)
  cases hg : (getP n fs).2 with
  | true =>
    rw [if_pos rfl]
    simp only [sumC]
    rw [← hg]
  | false =>
    rw [if_neg (by simp), getP_false hg]
    rfl
theorem rparse_t (s : HB) (hs : s.length ≤ 10000) : Tends (fun F => M_conciergeref38_Parse F s) (parseH vokH s) := by
  unfold M_conciergeref38_Parse parseH
  refine Tends.bind (rread_t s hs) ?_
  unfold rdQ
  by_cases he : (readP vokH s).2 = 0
  case neg =>
    rw [if_pos he]
    exact Tends.pos (by simpa using he) (.ret _)
  rw [if_neg (by simpa using he)]
  have hfl := read_len he
  generalize readP vokH s = R at hfl he ⊢
  obtain ⟨⟨m, p, b, fs⟩, e⟩ := R
  dsimp only at hfl he ⊢
  refine Tends.neg (by simp [he]) (Tends.bind (rget_t wKey m p b fs (by omega)) ?_)
  cases hk : (getP wKey fs).2 with
  | false => exact Tends.eq (r := (zHdR, 6)) (Tends.pos rfl (.ret _)) (by simp)
  | true =>
    refine Tends.neg (by simp) ?_
    refine Tends.bind (rget_t wTen m p b fs (by omega)) ?_
    cases ht : (getP wTen fs).2 with
    | false =>
      refine Tends.eq (r := ((0, 0, 0, (getP wKey fs).1, m, p, b, ()), 0)) ?_ (by simp)
      refine Tends.bind (r := .inl ((), (), (0, 0, 0, [], [], [], [], ()), (0, 0, 0, (getP wKey fs).1, m, p, b, ()), ())) (Tends.neg (by simp) (.ret _)) (.of fun F => rfl)
    | true =>
      generalize (getP wTen fs).1 = t at *
      by_cases h1 : t.length = 1
      · obtain ⟨c, rfl⟩ : ∃ c, t = [c] := by
          match t, h1 with
          | [c], _ => exact ⟨c, rfl⟩
        have hi : idx [c] (0 : Int) = some c := rfl
        by_cases hlo : 48 ≤ c.toNat
        · by_cases hhi : c.toNat ≤ 51
          · refine Tends.eq (r := ((0, 0, (c.toNat : Int) - 48, (getP wKey fs).1, m, p, b, ()), 0)) ?_ (by simp [hlo, hhi])
            have hw : IntKind.i64.wrap (IntKind.i64.wrap (c.toNat : Int) - 48) = (c.toNat : Int) - 48 := by
              have h2 := c.toNat_lt
              have h3 : IntKind.i64.wrap (c.toNat : Int) = (c.toNat : Int) := by rw [wrap64] <;> omega
              rw [h3, wrap64] <;> omega
            refine Tends.bind (r := .inl ((), (), (0, 0, 0, [], [], [], [], ()), (0, 0, (c.toNat : Int) - 48, (getP wKey fs).1, m, p, b, ()), ())) (Tends.pos rfl ?_) (.of fun F => rfl)
            refine Tends.bind (r := ((), (), [c], false, (0, 0, 0, [], [], [], [], ()), (0, 0, 0, (getP wKey fs).1, m, p, b, ()), ())) (Tends.pos (by simp) (Tends.bind (.of fun F => hi) (.of fun F => by simp; omega))) ?_
            refine Tends.bind (r := ((), (), [c], false, (0, 0, 0, [], [], [], [], ()), (0, 0, 0, (getP wKey fs).1, m, p, b, ()), ())) (Tends.pos rfl (Tends.bind (.of fun F => hi) (.of fun F => by simp; omega))) ?_
            refine Tends.neg (by simp) (Tends.bind (.of fun F => hi) (.of fun F => by simp only [hw]))
          · refine Tends.eq (r := (zHdR, 1)) ?_ (by simp [hlo, hhi])
            refine Tends.bind (r := .inr ((), 1, (0, 0, 0, [], [], [], [], ()), ())) (Tends.pos rfl ?_) (.of fun F => rfl)
            refine Tends.bind (r := ((), (), [c], false, (0, 0, 0, [], [], [], [], ()), (0, 0, 0, (getP wKey fs).1, m, p, b, ()), ())) (Tends.pos (by simp) (Tends.bind (.of fun F => hi) (.of fun F => by simp; omega))) ?_
            refine Tends.bind (r := ((), (), [c], true, (0, 0, 0, [], [], [], [], ()), (0, 0, 0, (getP wKey fs).1, m, p, b, ()), ())) (Tends.pos rfl (Tends.bind (.of fun F => hi) (.of fun F => by simp; omega))) ?_
            exact Tends.pos rfl (.ret _)
        · refine Tends.eq (r := (zHdR, 1)) ?_ (by simp [hlo])
          refine Tends.bind (r := .inr ((), 1, (0, 0, 0, [], [], [], [], ()), ())) (Tends.pos rfl ?_) (.of fun F => rfl)
          refine Tends.bind (r := ((), (), [c], true, (0, 0, 0, [], [], [], [], ()), (0, 0, 0, (getP wKey fs).1, m, p, b, ()), ())) (Tends.pos (by simp) (Tends.bind (.of fun F => hi) (.of fun F => by simp; omega))) ?_
          refine Tends.bind (r := ((), (), [c], true, (0, 0, 0, [], [], [], [], ()), (0, 0, 0, (getP wKey fs).1, m, p, b, ()), ())) (Tends.neg (by simp) (.ret _)) ?_
          exact Tends.pos rfl (.ret _)
      · refine Tends.eq (r := (zHdR, 1)) ?_ (by
          match t, h1 with
          | [], _ => rfl
          | a :: b :: r, _ => rfl)
        refine Tends.bind (r := .inr ((), 1, (0, 0, 0, [], [], [], [], ()), ())) (Tends.pos rfl ?_) (.of fun F => rfl)
        refine Tends.bind (r := ((), (), t, true, (0, 0, 0, [], [], [], [], ()), (0, 0, 0, (getP wKey fs).1, m, p, b, ()), ())) (Tends.neg (by simp; omega) (.ret _)) ?_
        refine Tends.bind (r := ((), (), t, true, (0, 0, 0, [], [], [], [], ()), (0, 0, 0, (getP wKey fs).1, m, p, b, ()), ())) (Tends.neg (by simp) (.ret _)) ?_
        exact Tends.pos rfl (.ret _)
end Go.Vm
