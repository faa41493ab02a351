/- Readers of bytes: the program's and the document's, plain. No condition. -/
import Derived.Test.YtgeafoacmnlioaaDoorPe2
import Derived.Test.YtgeafoacmnlioaaDoorFopn
namespace Go.Vm
open Go Go.Proofs
set_option linter.unusedVariables false
theorem or_add (a c : Nat) (hc : c < 128) : a * 128 ||| c = a * 128 + c := by
  have := Nat.shiftLeft_add_eq_or_of_lt (b := c) (i := 7) (by omega) a
  rw [Nat.shiftLeft_eq] at this
  exact this.symm
theorem ior_shl7 (a c : Nat) (ha : a < 72057594037927936) (hc : c < 128) : ior .i64 (shl .i64 (a : Int) 7) (c : Int) = ((a * 128 + c : Nat) : Int) := by
  have e1 : shl .i64 (a : Int) 7 = ((a * 128 : Nat) : Int) := by
    unfold shl
    rw [show (2 : Int) ^ (min (7 : Int).toNat IntKind.i64.bits) = 128 from by decide, wrap64 _ (by omega) (by omega)]
    push_cast
    rfl
  rw [e1]
  unfold ior
  rw [BitVec.ofInt_natCast, BitVec.ofInt_natCast, BitVec.toNat_or, BitVec.toNat_ofNat, BitVec.toNat_ofNat]
  rw [show IntKind.i64.bits = 64 from rfl, Nat.mod_eq_of_lt (by omega), Nat.mod_eq_of_lt (by omega), or_add _ _ hc, wrap64 _ (by omega) (by omega)]
theorem low7 (c : UInt8) : IntKind.i64.wrap (iand IntKind.u8 (c.toNat : Int) 127) = ((c.toNat % 128 : Nat) : Int) := by
  have := and127 ⟨c.toNat, c.toNat_lt⟩
  simp only at this
  rw [this, wrap64 _ (by omega) (by omega)]
abbrev st3 (st : OS) : List UInt8 × Bool × Unit := (st.1, st.2, ())
theorem oraw_eq (F : Nat) (st : OS) (n : Nat) : M_pack_Opener_Raw F (st3 st, (n : Int)) = some ((oRaw n st).1, st3 (oRaw n st).2) := by
  obtain ⟨s, b⟩ := st
  have h0 : ¬ ((n : Int) < 0) := by omega
  unfold M_pack_Opener_Raw M_pack_Opener_OK M_pack_Opener_fail oRaw
  cases b
  · by_cases h : s.length < n
    · have h' : ((s.length : Nat) : Int) < (n : Int) := by omega
      simp [h0, h, h']
    · have h' : ¬ (((s.length : Nat) : Int) < (n : Int)) := by omega
      have s1 : sub s 0 (n : Int) = some (s.take n) := by simpa using subN s 0 n (by omega) (by omega)
      have s2 : sub s (n : Int) (s.length : Int) = some (s.drop n) := subE s n (by omega)
      simp [h0, h, h', s1, s2]
  · simp
theorem onumber_loop : ∀ (f k acc : Nat) (s : List UInt8), k + f = 9 → acc < 128 ^ k → ∃ y, TendsL M_pack_Opener_number_l0 ((), (acc : Int), (k : Int), (s, false, ()), ()) y ∧
    (match decGo f acc (decide (k = 0)) s with
      | some (n, r) => y = .inr ((), (n : Int), (r, false, ()), ())
      | none => (∃ st, y = .inl ((), st, ())) ∨ (∃ st, y = .inr ((), -1, st, ())))
  | 0, k, acc, s, hk, ha => by
    refine ⟨.inl ((), (s, false, ()), ()), TendsL.fin (.of fun F => ?_), .inl ⟨_, rfl⟩⟩
    unfold M_pack_Opener_number_l0
    rw [if_neg (by simp; omega)]
  | f + 1, k, acc, [], hk, ha => by
    refine ⟨.inr ((), -1, ([], true, ()), ()), TendsL.fin (.of fun F => ?_), ?_⟩
    · unfold M_pack_Opener_number_l0
      have h1 := oraw_eq F ([], false) 1
      have e : oRaw 1 ([], false) = ([], ([], true)) := rfl
      rw [e] at h1
      have hk9 : (k : Int) < 9 := by omega
      simp only [hk9, decide_true, if_true]
      rw [show M_pack_Opener_Raw F ((([] : List UInt8), false, ()), 1) = some ([], [], true, ()) from h1]
      rfl
    · rw [decGo]
      exact .inr ⟨_, rfl⟩
  | f + 1, k, acc, c :: s, hk, ha => by
    have hc := c.toNat_lt
    have hk9 : (k : Int) < 9 := by omega
    have hacc : acc < 72057594037927936 := Nat.lt_of_lt_of_le ha (by rw [show 72057594037927936 = 128 ^ 8 by decide]; exact Nat.pow_le_pow_right (by omega) (by omega))
    have h1 : ∀ F, M_pack_Opener_Raw F ((c :: s, false, ()), 1) = some ([c], s, false, ()) := by
      intro F
      have := oraw_eq F (c :: s, false) 1
      have e : oRaw 1 (c :: s, false) = ([c], (s, false)) := by unfold oRaw; simp
      rw [e] at this
      exact this
    have hi : idx [c] 0 = some c := rfl
    have el := low7 c
    have ev := ior_shl7 acc (c.toNat % 128) hacc (Nat.mod_lt _ (by omega))
    by_cases hf : k = 0 ∧ c = 128
    · obtain ⟨rfl, rfl⟩ := hf
      refine ⟨.inr ((), -1, (s, false, ()), ()), TendsL.fin (.of fun F => ?_), ?_⟩
      · unfold M_pack_Opener_number_l0
        simp only [hk9, decide_true, if_true, h1, Option.bind_some, hi]
        rfl
      · rw [decGo, if_pos (by simp)]
        exact .inr ⟨_, rfl⟩
    · have hst : ∀ F, M_pack_Opener_number_l0 F ((), (acc : Int), (k : Int), (c :: s, false, ()), ()) = if c.toNat < 128 then some (.inr (.inr ((), ((acc * 128 + c.toNat % 128 : Nat) : Int), (s, false, ()), ()))) else some (.inl ((), ((acc * 128 + c.toNat % 128 : Nat) : Int), ((k + 1 : Nat) : Int), (s, false, ()), ())) := by
        intro F
        unfold M_pack_Opener_number_l0
        simp only [hk9, decide_true, if_true, h1, Option.bind_some, hi, el, ev]
        have hb : (if decide (([c] : List UInt8) = []) = false then if decide ((k : Int) = 0) = true then some ((), (acc : Int), [c], (k : Int), decide ((c.toNat : Int) = 128), (s, false, ()), ()) else some ((), (acc : Int), [c], (k : Int), false, (s, false, ()), ()) else some ((), (acc : Int), [c], (k : Int), true, (s, false, ()), ()))
            = some ((), (acc : Int), [c], (k : Int), false, (s, false, ()), ()) := by
          rw [if_pos (by simp)]
          by_cases h0 : k = 0
          · have hne : ¬ ((c.toNat : Int) = 128) := by
              intro h
              exact hf ⟨h0, UInt8.toNat_inj.1 (by have h128 : (128 : UInt8).toNat = 128 := rfl; omega)⟩
            rw [if_pos (by simp [h0])]
            simp only [hne, decide_false]
          · rw [if_neg (by simp; omega)]
        rw [hb]
        simp only [Option.bind_some, hi, el, ev]
        by_cases hlt : c.toNat < 128
        · rw [if_neg (by simp), if_pos (by simp; omega), if_pos hlt]
        · rw [if_neg (by simp), if_neg (by simp; omega), if_neg hlt, next_nat k (by omega)]
      have hd : decGo (f + 1) acc (decide (k = 0)) (c :: s) = if c.toNat < 128 then some (acc * 128 + c.toNat, s) else decGo f (acc * 128 + (c.toNat - 128)) false s := by
        rw [decGo, if_neg (by simpa using hf)]
      by_cases hlt : c.toNat < 128
      · refine ⟨.inr ((), ((acc * 128 + c.toNat % 128 : Nat) : Int), (s, false, ()), ()), TendsL.fin (.of fun F => by rw [hst, if_pos hlt]), ?_⟩
        rw [hd, if_pos hlt, Nat.mod_eq_of_lt hlt]
      · obtain ⟨y, h2, h3⟩ := onumber_loop f (k + 1) (acc * 128 + c.toNat % 128) s (by omega) (by rw [Nat.pow_succ]; omega)
        refine ⟨y, TendsL.step (.of fun F => by rw [hst, if_neg hlt]) h2, ?_⟩
        rw [hd, if_neg hlt, show c.toNat - 128 = c.toNat % 128 by omega]
        rw [show decide (k + 1 = 0) = false by simp] at h3
        exact h3
theorem onumber_tends (s : List UInt8) : ∃ st, Tends (fun F => M_pack_Opener_number F (s, false, ())) (match decN s with | some (n, r) => ((n : Int), (r, false, ())) | none => (-1, st)) := by
  obtain ⟨y, h1, h2⟩ := onumber_loop 9 0 0 s rfl (by decide)
  unfold decN
  rw [show decide (0 = 0) = true by simp] at h2
  cases hd : decGo 9 0 true s with
  | some x =>
    obtain ⟨n, r⟩ := x
    rw [hd] at h2
    simp only at h2
    subst h2
    exact ⟨([], true, ()), Tends.bind h1.run (.ret _)⟩
  | none =>
    rw [hd] at h2
    simp only at h2
    rcases h2 with ⟨st, rfl⟩ | ⟨st, rfl⟩ <;> exact ⟨st, Tends.bind h1.run (.ret _)⟩
theorem onum_tends (st : OS) (lim : Nat) (hl : lim ≤ 4611686018427387904) : Tends (fun F => M_pack_Opener_Num F (st3 st, (lim : Int))) ((oNum lim st).1, st3 (oNum lim st).2) := by
  obtain ⟨s, b⟩ := st
  unfold M_pack_Opener_Num
  cases b
  · obtain ⟨q, hq⟩ := onumber_tends s
    unfold oNum
    rw [if_neg (by simp)]
    simp only
    refine Tends.bind hq (.of fun F => ?_)
    cases decN s with
    | none => simp [M_pack_Opener_OK, M_pack_Opener_fail]
    | some x =>
      obtain ⟨n, r⟩ := x
      have h0 : ¬ ((n : Int) < 0) := by omega
      by_cases h : n ≤ lim
      · have h2 : ¬ ((4611686018427387904 : Int) < (n : Int)) := by omega
        have h3 : ¬ ((lim : Int) < (n : Int)) := by omega
        simp [M_pack_Opener_OK, M_pack_Opener_fail, h0, h, h2, h3]
      · have h3 : ((lim : Int) < (n : Int)) := by omega
        by_cases h2 : (4611686018427387904 : Int) < (n : Int)
        · simp [M_pack_Opener_OK, M_pack_Opener_fail, h0, h, h2]
        · simp [M_pack_Opener_OK, M_pack_Opener_fail, h0, h, h2, h3]
  · have hq : ∃ n st, (∀ F, 1 ≤ F → M_pack_Opener_number F (s, true, ()) = some (n, (st, true, ()))) := by
      refine ⟨-1, [], fun F hF => ?_⟩
      obtain ⟨F, rfl⟩ : ∃ k, F = k + 1 := ⟨F - 1, by omega⟩
      have h1 := oraw_eq (F + 1) (s, true) 1
      have e : oRaw 1 (s, true) = ([], ([], true)) := by unfold oRaw; simp
      rw [e] at h1
      unfold M_pack_Opener_number loopM
      have : M_pack_Opener_number_l0 (F + 1) ((), 0, 0, (s, true, ()), ()) = some (.inr (.inr ((), -1, ([], true, ()), ()))) := by
        unfold M_pack_Opener_number_l0
        rw [if_pos (by simp)]
        rw [show M_pack_Opener_Raw (F + 1) ((s, true, ()), 1) = some ([], [], true, ()) from h1]
        rfl
      rw [this]
      rfl
    obtain ⟨n, q, hq⟩ := hq
    refine ⟨1, fun F hF => ?_⟩
    show ((M_pack_Opener_number F (s, true, ())).bind _) = _
    rw [hq F hF]
    unfold oNum
    simp [M_pack_Opener_OK, M_pack_Opener_fail]
theorem oNum_nn (lim : Nat) (st : OS) : ∃ n : Nat, (oNum lim st).1 = (n : Int) ∧ n ≤ lim := by
  unfold oNum
  split
  · exact ⟨0, rfl, by omega⟩
  · cases decN st.1 with
    | none => exact ⟨0, rfl, by omega⟩
    | some x =>
      simp only
      split
      · exact ⟨x.1, rfl, by assumption⟩
      · exact ⟨0, rfl, by omega⟩
theorem otext_tends (st : OS) (lim : Nat) (hl : lim ≤ 4611686018427387904) : Tends (fun F => M_pack_Opener_Text F (st3 st, (lim : Int))) ((oText lim st).1, st3 (oText lim st).2) := by
  obtain ⟨n, hn, _⟩ := oNum_nn lim st
  unfold M_pack_Opener_Text
  refine Tends.bind (onum_tends st lim hl) ?_
  have e : oText lim st = oRaw n (oNum lim st).2 := by unfold oText obind; rw [hn]; rfl
  rw [e]
  simp only
  refine Tends.bind (m := fun F => M_pack_Opener_Raw F (st3 (oNum lim st).2, (oNum lim st).1)) (r := ((oRaw n (oNum lim st).2).1, st3 (oRaw n (oNum lim st).2).2)) (.of fun F => ?_) (.ret _)
  rw [hn]
  exact oraw_eq F _ n
theorem odone_eq (F : Nat) (st : OS) : M_pack_Opener_Done F (st3 st) = some (!st.2 && decide (st.1 = []), st3 st) := by
  obtain ⟨s, b⟩ := st
  unfold M_pack_Opener_Done M_pack_Opener_Left M_pack_Opener_OK
  cases b
  · cases s <;> simp
    omega
  · simp
end Go.Vm
