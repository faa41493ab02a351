/- Marks of places: the laws, plainly. No condition. -/
import Derived.Test.YtgeafoacmnlioaaDoorPpg4
import Derived.Test.YtgeafoacmnlioaaDoorFlaw42
namespace Go.Vm
open Go Go.Proofs
set_option linter.unusedVariables false
set_option linter.unusedSimpArgs false
def rawQ (m out : List UInt8) (l : List UInt8) : (List UInt8 × List UInt8 × Unit) ⊕ (Int × List UInt8 × Int × Unit) := match rawP l with
  | some t => .inl (m, out ++ t, ())
  | none => .inr (0, [], 3, ())
theorem rraw_loop (s : List UInt8) (hs : s.length ≤ 1000000) : ∀ (m k : Nat) (out : List UInt8), k + 2 * m = s.length → 2 * out.length = k → TendsL M_conciergeref42_Place_l0 (s, out, (k : Int), ()) (rawQ s out (s.drop k))
  | 0, k, out, hk, ho => by
    refine TendsL.fin (.of fun F => ?_)
    unfold M_conciergeref42_Place_l0
    rw [List.drop_of_length_le (by omega), if_neg (by simp; omega)]
    simp [rawQ, rawP]
  | m + 1, k, out, hk, ho => by
    have h0 : k < s.length := by omega
    have h1 : k + 1 < s.length := by omega
    have hd : s.drop k = s[k] :: s[k + 1] :: s.drop (k + 2) := by rw [drop_step s k h0, drop_step s (k + 1) h1]
    rw [hd]
    have hst : ∀ F, M_conciergeref42_Place_l0 F (s, out, (k : Int), ()) = if dgI s[k] < 0 ∨ dgI s[k + 1] < 0 then some (.inr (.inr (0, [], 3, ()))) else some (.inl (s, out ++ [UInt8.ofNat (IntKind.u8.wrap (IntKind.i64.wrap (IntKind.i64.wrap (dgI s[k] * 16) + dgI s[k + 1]))).toNat], ((k + 2 : Nat) : Int), ())) := by
      intro F
      unfold M_conciergeref42_Place_l0
      rw [if_pos (by simpa using h0)]
      simp only [idxN s k (k : Int) rfl h0, Option.bind_some, rdig_at, next_nat k (by omega), idxN s (k + 1) ((k + 1 : Nat) : Int) rfl h1, next2 k (by omega)]
      have lh : out.length + 1 ≤ 9223372036854775807 := by omega
      by_cases ha : dgI s[k] < 0
      · have hc : dgI s[k] < 0 ∨ dgI s[k + 1] < 0 := .inl ha
        rw [if_pos hc]
        simp [ha]
      · by_cases hb : dgI s[k + 1] < 0
        · have hc : dgI s[k] < 0 ∨ dgI s[k + 1] < 0 := .inr hb
          rw [if_pos hc]
          simp [ha, hb]
        · have hc : ¬ (dgI s[k] < 0 ∨ dgI s[k + 1] < 0) := by rintro (h | h) <;> contradiction
          have ha' : 0 ≤ dgI s[k] := by omega
          rw [if_neg hc]
          have lh' : out.length ≤ 9223372036854775806 := by omega
          have hn2 := next2 k (by omega)
          simp [ha', hb, lh', hn2]
    unfold rawQ
    simp only [rawP]
    cases ha : uhD s[k] with
    | none =>
      have e : dgI s[k] < 0 := by unfold dgI; rw [ha]; decide
      exact TendsL.fin (.of fun F => by rw [hst, if_pos (.inl e)])
    | some x =>
      cases hb : uhD s[k + 1] with
      | none =>
        have e : dgI s[k + 1] < 0 := by unfold dgI; rw [hb]; decide
        exact TendsL.fin (.of fun F => by rw [hst, if_pos (.inr e)])
      | some y =>
        have ex : dgI s[k] = (x : Int) := by unfold dgI; rw [ha]
        have ey : dgI s[k + 1] = (y : Int) := by unfold dgI; rw [hb]
        have ih := rraw_loop s hs m (k + 2) (out ++ [UInt8.ofNat (x * 16 + y)]) (by omega) (by simp; omega)
        refine TendsL.step (x' := (s, out ++ [UInt8.ofNat (x * 16 + y)], ((k + 2 : Nat) : Int), ())) (.of fun F => ?_) ?_
        · rw [hst, if_neg (by rw [ex, ey]; omega), ex, ey, rtwo_dig x y (uhD_some ha).2 (uhD_some hb).2]
        · have e : rawQ s (out ++ [UInt8.ofNat (x * 16 + y)]) (s.drop (k + 2)) = (match Option.map (UInt8.ofNat (x * 16 + y) :: ·) (rawP (s.drop (k + 2))) with | some t => .inl (s, out ++ t, ()) | none => .inr (0, [], 3, ())) := by
            unfold rawQ
            cases rawP (s.drop (k + 2)) <;> simp
          rw [← e]
          exact ih
theorem wrap_byte (c : UInt8) : IntKind.i64.wrap (c.toNat : Int) = (c.toNat : Int) := by
  have := c.toNat_lt
  rw [wrap64] <;> omega
theorem rplace_t (m : List UInt8) (hm : m.length ≤ 1000) : Tends (fun F => M_conciergeref42_Place F m) (plI (refP keyF m)) := by
  unfold M_conciergeref42_Place refP
  by_cases h2 : m.length % 2 = 0
  case neg =>
    have hm : (m.length : Int).tmod 2 ≠ 0 := by rw [Int.tmod_eq_emod_of_nonneg (by omega)]; omega
    rw [raw_odd m (by omega)]
    exact Tends.pos (by simp [hm]) (.ret _)
  have hm2 : (m.length : Int).tmod 2 = 0 := by rw [Int.tmod_eq_emod_of_nonneg (by omega)]; omega
  refine Tends.neg (by simp [hm2]) ?_
  have h := rraw_loop m (by omega) (m.length / 2) 0 [] (by omega) rfl
  rw [List.drop_zero] at h
  refine Tends.bind h.run ?_
  unfold rawQ
  cases hr : rawP m with
  | none => exact .ret _
  | some s =>
    have hsl := raw_len m s hr
    simp only [sumC, List.nil_append]
    by_cases h4 : s.length < 4
    · have hc : s.length < 4 ∨ sealL (s.take (s.length - 4)) ≠ s := .inl h4
      rw [if_pos hc]
      refine Tends.bind (r := (m, s, true, ())) (Tends.neg (by simp; omega) (.ret _)) (Tends.pos rfl (.ret _))
    have e : IntKind.i64.wrap ((s.length : Int) - 4) = ((s.length - 4 : Nat) : Int) := by rw [wrap64] <;> omega
    simp only [e]
    have s1 : sub s 0 ((s.length - 4 : Nat) : Int) = some (s.take (s.length - 4)) := by simpa using subN s 0 (s.length - 4) (by omega) (by omega)
    refine Tends.bind (r := (m, s, !decide (sealL (s.take (s.length - 4)) = s), ())) (Tends.pos (by simp; omega) (Tends.bind (.const s1) (Tends.bind (rseal42 _ (by simp; omega)) (.ret _)))) ?_
    by_cases hq : sealL (s.take (s.length - 4)) = s
    case neg =>
      have hc : s.length < 4 ∨ sealL (s.take (s.length - 4)) ≠ s := .inr hq
      rw [if_pos hc, decide_eq_false hq]
      exact Tends.pos rfl (.ret _)
    have hc : ¬ (s.length < 4 ∨ sealL (s.take (s.length - 4)) ≠ s) := fun x => x.elim h4 (fun y => y hq)
    rw [if_neg hc, decide_eq_true hq]
    refine Tends.neg (by simp) ?_
    by_cases h6 : s.length < 6
    · have hc : s.length < 6 ∨ 3 < (s.getD 0 0).toNat := .inl h6
      rw [if_pos hc]
      refine Tends.bind (r := (m, s, true, ())) (Tends.neg (by simp; omega) (.ret _)) (Tends.pos rfl (.ret _))
    have hi : idx s 0 = some (s.getD 0 0) := by
      rw [idxN s 0 0 rfl (by omega), getD_lt _ _ _ (by omega)]
    generalize hc0 : s.getD 0 0 = c at hi ⊢
    refine Tends.bind (r := (m, s, decide (3 < (c.toNat : Int)), ())) (Tends.pos (by simp; omega) (Tends.bind (.const hi) (.ret _))) ?_
    by_cases h3 : 3 < c.toNat
    · have hc : s.length < 6 ∨ 3 < c.toNat := .inr h3
      rw [if_pos hc, decide_eq_true (by omega)]
      exact Tends.pos rfl (.ret _)
    have hc : ¬ (s.length < 6 ∨ 3 < c.toNat) := fun x => x.elim h6 h3
    rw [if_neg hc, decide_eq_false (by omega)]
    refine Tends.neg (by simp) ?_
    have s2 : sub s 2 ((s.length - 4 : Nat) : Int) = some ((s.take (s.length - 4)).drop 2) := by
      have := subN s 2 (s.length - 4) (by omega) (by omega)
      rw [List.drop_take]
      exact this
    refine Tends.bind (r := (s.take (s.length - 4)).drop 2) (.of fun F => by simp only [e]; exact s2) ?_
    generalize hk : (s.take (s.length - 4)).drop 2 = k
    by_cases hy : mayN keyF c.toNat k = true
    · have hyy := hy
      unfold mayN at hyy
      rw [Bool.and_eq_true, decide_eq_true_eq] at hyy
      refine Tends.bind (r := (s, k, !decide (markP c.toNat k = m), ())) ?_ ?_
      · refine Tends.bind (.const hi) ?_
        simp only [wrap_byte]
        refine Tends.bind (rmay_t (c.toNat : Int) k) ?_
        rw [mayI_nat, hy]
        refine Tends.pos rfl (Tends.bind (.const hi) ?_)
        exact Tends.bind (rmark_t c.toNat k hyy.1 (keyF_len hyy.2)) (.ret _)
      · by_cases hmm : markP c.toNat k = m
        · have hc : mayN keyF c.toNat k = true ∧ markP c.toNat k = m := ⟨hy, hmm⟩
          rw [if_pos hc, decide_eq_true hmm]
          refine Tends.neg (by simp) (Tends.bind (.const hi) ?_)
          simp only [wrap_byte]
          exact .ret _
        · have hc : ¬ (mayN keyF c.toNat k = true ∧ markP c.toNat k = m) := fun x => hmm x.2
          rw [if_neg hc, decide_eq_false hmm]
          exact Tends.pos rfl (.ret _)
    · have hc : ¬ (mayN keyF c.toNat k = true ∧ markP c.toNat k = m) := fun x => hy x.1
      rw [if_neg hc]
      refine Tends.bind (r := (s, k, true, ())) ?_ (Tends.pos rfl (.ret _))
      refine Tends.bind (.const hi) ?_
      simp only [wrap_byte]
      refine Tends.bind (rmay_t (c.toNat : Int) k) ?_
      rw [mayI_nat, Bool.eq_false_iff.2 hy]
      exact Tends.neg (by simp) (.ret _)
/-! ### the laws -/
theorem awake42_t : Tends (fun F => M_conciergelaw42_awake F ()) true := Tends.mono (fun F F' h => mo_conciergelaw42_awake h _) 60 (by kernel_rfl)
theorem markP_len (t : Nat) (k : List UInt8) (ht : t < 4) (hk : k.length ≤ 24) : (markP t k).length = 12 + 2 * k.length := by
  unfold markP
  rw [hex_len, sealL_len, plc_len t k (by omega) (by omega)]
  omega
theorem pure_conciergelaw42_PageMarks (t : Int) (key mark : List UInt8) : ∃ F, M_conciergelaw42_PageMarks F (t, key, mark) = some true := by
  refine Tends.ex ?_
  unfold M_conciergelaw42_PageMarks
  refine Tends.bind awake42_t (Tends.neg (by decide) ?_)
  by_cases h1 : 100 < key.length
  · refine Tends.bind (r := (t, key, mark, true, ())) (Tends.neg (by simp; omega) (.ret _)) (Tends.pos rfl (.ret _))
  refine Tends.bind (r := (t, key, mark, decide (120 < (mark.length : Int)), ())) (Tends.pos (by simp; omega) (.ret _)) ?_
  by_cases h2 : 120 < mark.length
  · rw [decide_eq_true (by omega)]
    exact Tends.pos rfl (.ret _)
  rw [decide_eq_false (by omega)]
  refine Tends.neg (by simp) ?_
  have hp := place_t mark (by omega)
  have hr := rplace_t mark (by omega)
  rw [refP_eq (fun k h => keyF_len h)] at hr
  refine Tends.bind hp (Tends.bind hr ?_)
  refine Tends.bind (r := (t, key, (plI (placeP keyF mark)).2.2, (plI (placeP keyF mark)).2.2, false, ())) (Tends.pos (by simp) (.of fun F => by simp)) ?_
  refine Tends.bind (r := (t, key, false, ())) (Tends.pos (by simp) (.of fun F => by simp)) (Tends.neg (by simp) ?_)
  have hmk := mark_t t key
  cases hm : mayI t key with
  | false =>
    rw [hm, if_neg (by decide)] at hmk
    refine Tends.bind hmk (Tends.bind (rmay_t t key) ?_)
    rw [hm]
    refine Tends.pos rfl (Tends.bind (r := (true, ())) (Tends.pos (by simp) (.of fun F => by simp)) (.ret _))
  | true =>
    rw [hm, if_pos rfl] at hmk
    refine Tends.bind hmk (Tends.bind (rmay_t t key) ?_)
    rw [hm]
    refine Tends.neg (by simp) ?_
    obtain ⟨n, rfl⟩ : ∃ n : Nat, t = (n : Int) := by
      unfold mayI at hm
      rw [Bool.and_eq_true, decide_eq_true_eq] at hm
      exact ⟨t.toNat, by omega⟩
    rw [mayI_nat] at hm
    have hmm := hm
    unfold mayN at hmm
    rw [Bool.and_eq_true, decide_eq_true_eq] at hmm
    have hk := keyF_len hmm.2
    simp only [Int.toNat_natCast]
    have hpl := place_t (markP n key) (by rw [markP_len n key hmm.1 hk]; omega)
    rw [place_mark (fun k h => keyF_len h) hm] at hpl
    refine Tends.bind hpl ?_
    refine Tends.bind (r := ((n : Int), key, (n : Int), key, (0 : Int), true, ())) (Tends.pos (by simp) (Tends.bind (rmark_t n key hmm.1 hk) (.of fun F => by simp [plI]))) ?_
    refine Tends.bind (r := ((n : Int), key, (n : Int), key, true, ())) (Tends.pos rfl (.ret _)) ?_
    refine Tends.bind (r := (key, key, true, ())) (Tends.pos rfl (.of fun F => by simp)) ?_
    exact Tends.bind (r := (true, ())) (Tends.pos rfl (.of fun F => by simp)) (.ret _)
theorem dgS_uh : ∀ i : Fin 16, (uhD (dgS.getD i.val 0)) = some i.val := by decide
theorem pure_conciergelaw42_PageTurned (t : Int) (key : List UInt8) (x : List UInt8) (hx : x.length = 2) : ∃ F, M_conciergelaw42_PageTurned F (t, key, x) = some true := by
  refine Tends.ex ?_
  obtain ⟨x0, x1, rfl⟩ : ∃ a b, x = [a, b] := by
    match x, hx with
    | [a, b], _ => exact ⟨a, b, rfl⟩
  unfold M_conciergelaw42_PageTurned
  refine Tends.bind awake42_t (Tends.neg (by decide) ?_)
  by_cases h1 : 100 < key.length
  · exact Tends.pos (by simp; omega) (.ret _)
  refine Tends.neg (by simp; omega) ?_
  refine Tends.bind (mark_t t key) ?_
  cases hm : mayI t key with
  | false =>
    rw [if_neg (by simp)]
    exact Tends.pos (by simp) (Tends.bind (rmay_t t key) (.of fun F => by rw [hm]; rfl))
  | true =>
    rw [if_pos rfl]
    refine Tends.neg (by simp) ?_
    obtain ⟨n, rfl⟩ : ∃ n : Nat, t = (n : Int) := by
      unfold mayI at hm
      rw [Bool.and_eq_true, decide_eq_true_eq] at hm
      exact ⟨t.toNat, by omega⟩
    rw [mayI_nat] at hm
    have hmm := hm
    unfold mayN at hmm
    rw [Bool.and_eq_true, decide_eq_true_eq] at hmm
    have hk := keyF_len hmm.2
    simp only [Int.toNat_natCast]
    have hl := markP_len n key hmm.1 hk
    refine Tends.pos (by rw [decide_eq_true_eq]; omega) ?_
    refine Tends.bind (r := x0) (.of fun F => rfl) ?_
    refine Tends.pos (by rw [decide_eq_true_eq]; omega) ?_
    refine Tends.bind (r := x1) (.of fun F => rfl) ?_
    have hx1 : (x1.toNat : Int).tmod 16 = ((x1.toNat % 16 : Nat) : Int) := by rw [Int.tmod_eq_emod_of_nonneg (by omega)]; omega
    have hlt : x1.toNat % 16 < dgS.length := by show _ < 16; omega
    have hd : idx dgS ((x1.toNat : Int).tmod 16) = some dgS[x1.toNat % 16] := by rw [hx1]; exact idxN dgS _ _ rfl hlt
    refine Tends.bind (.const hd) ?_
    have hu : uhD dgS[x1.toNat % 16] = some (x1.toNat % 16) := by
      have := dgS_uh ⟨x1.toNat % 16, by omega⟩
      rw [getD_lt _ _ _ hlt] at this
      exact this
    generalize hdg : dgS[x1.toNat % 16] = d at hu ⊢
    have hi0 : (IntKind.i64.wrap (x0.toNat : Int)).tmod ((markP n key).length : Int) = ((x0.toNat % (markP n key).length : Nat) : Int) := by
      rw [wrap_byte, Int.tmod_eq_emod_of_nonneg (by omega)]
      exact (Int.natCast_emod _ _).symm
    have hlt2 : x0.toNat % (markP n key).length < (markP n key).length := Nat.mod_lt _ (by omega)
    simp only [hi0]
    generalize x0.toNat % (markP n key).length = i at hlt2 ⊢
    have hi : idx (markP n key) (i : Int) = some (markP n key)[i] := idxN _ _ _ rfl hlt2
    refine Tends.bind (.const hi) ?_
    by_cases hdd : (markP n key)[i] = d
    · exact Tends.pos (by rw [hdd]; simp) (.ret _)
    refine Tends.neg (by
      rw [decide_eq_true_eq]
      intro h
      exact hdd (UInt8.toNat_inj.1 (by omega))) ?_
    refine Tends.bind (.const hi) ?_
    refine Tends.bind (r := d) (.of fun F => ?_) ?_
    · rw [show ((((i : Nat) : Int).toNat : Nat) : Int) = (i : Int) by simp, hi]
      simp
    have hpl := place_t ((markP n key).set i d) (by rw [List.length_set]; omega)
    rw [place_turned n key i d _ hlt2 hu (by rw [List.getElem?_eq_getElem hlt2]; intro h; exact hdd (Option.some.inj h))] at hpl
    refine Tends.bind (r := (0, [], 4, ())) (Tends.bind (m := fun F => M_page_Place F ((markP n key).set i d)) hpl (.ret _)) ?_
    refine Tends.bind (r := ([], true, ())) (Tends.pos (by simp) (.of fun F => by simp)) ?_
    exact Tends.bind (r := (true, ())) (Tends.pos rfl (.of fun F => by simp)) (.ret _)
end Go.Vm
