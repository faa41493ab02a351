/- Marks of places, plainly: there and back, of any text, one turned. No condition but on lengths. -/
import Derived.Test.YtgeafoacmnlioaaDoorPhex
import Derived.Test.YtgeafoacmnlioaaDoorPe1
import Derived.Test.YtgeafoacmnlioaaDoorPcrc
namespace Go.Vm
set_option linter.unusedVariables false
set_option linter.unusedSimpArgs false
open Go
def plcB (t : Nat) (k : List UInt8) : List UInt8 := numL t ++ (numL k.length ++ k)
def markP (t : Nat) (k : List UInt8) : List UInt8 := hexP (sealL (plcB t k))
def mayN (ok : List UInt8 → Bool) (t : Nat) (k : List UInt8) : Bool := decide (t < 4) && ok k
def rdB (ok : List UInt8 → Bool) : List UInt8 → Option (Nat × List UInt8)
  | t :: n :: k => if t.toNat < 4 ∧ n.toNat = k.length ∧ ok k = true then some (t.toNat, k) else none
  | _ => none
def placeP (ok : List UInt8 → Bool) (m : List UInt8) : Nat × List UInt8 × Int :=
  match rawP m with
  | none => (0, [], 3)
  | some s => match opnL s with
    | (_, false) => (0, [], 4)
    | (b, true) => match rdB ok b with
      | none => (0, [], 3)
      | some (t, k) => (t, k, 0)
theorem numL_small {n : Nat} (h : n < 128) : numL n = [UInt8.ofNat n] := by
  unfold numL
  rw [Nat.div_eq_of_lt h, hiL_zero, Nat.mod_eq_of_lt h]; rfl
theorem plcB_small {t : Nat} {k : List UInt8} (ht : t < 128) (hk : k.length < 128) : plcB t k = UInt8.ofNat t :: UInt8.ofNat k.length :: k := by
  unfold plcB
  rw [numL_small ht, numL_small hk]; rfl
theorem ofN_toNat {n : Nat} (h : n < 256) : (UInt8.ofNat n).toNat = n := by
  rw [UInt8.toNat_ofNat']; omega
theorem rd_plc {ok : List UInt8 → Bool} (hok : ∀ k, ok k = true → k.length ≤ 24) {t : Nat} {k : List UInt8} (h : mayN ok t k = true) : rdB ok (plcB t k) = some (t, k) := by
  unfold mayN at h
  rw [Bool.and_eq_true, decide_eq_true_eq] at h
  have hk := hok k h.2
  rw [plcB_small (by omega) (by omega)]
  unfold rdB
  simp only [ofN_toNat (n := t) (by omega), ofN_toNat (n := k.length) (by omega)]
  rw [if_pos ⟨h.1, trivial, h.2⟩]
theorem plc_rd {ok : List UInt8 → Bool} (hok : ∀ k, ok k = true → k.length ≤ 24) {b : List UInt8} {t : Nat} {k : List UInt8} (h : rdB ok b = some (t, k)) : mayN ok t k = true ∧ b = plcB t k := by
  match b, h with
  | x :: n :: r, h =>
    unfold rdB at h
    simp only at h
    split at h
    · rename_i hc
      obtain ⟨rfl, rfl⟩ : x.toNat = t ∧ r = k := by simpa using h
      have hk := hok r hc.2.2
      refine ⟨by unfold mayN; rw [Bool.and_eq_true, decide_eq_true_eq]; exact ⟨hc.1, hc.2.2⟩, ?_⟩
      rw [plcB_small (by omega) (by omega), ← hc.2.1]
      simp
    · cases h
theorem place_mark {ok : List UInt8 → Bool} (hok : ∀ k, ok k = true → k.length ≤ 24) {t : Nat} {k : List UInt8} (h : mayN ok t k = true) : placeP ok (markP t k) = (t, k, 0) := by
  unfold placeP markP
  rw [raw_hex]
  simp only [opnL_seal, rd_plc hok h]
theorem sealL_turn (a : List UInt8) (i : Nat) (v : UInt8) (hi : i < a.length + 4) (hv : (sealL a)[i]? ≠ some v) : sealL (((sealL a).set i v).take a.length) ≠ (sealL a).set i v := by
  intro e
  by_cases h : i < a.length
  · have e1 : ((sealL a).set i v).take a.length = a.set i v := by
      unfold sealL
      rw [List.set_append_left _ _ h, List.take_left' (by simp)]
    have e2 : ((sealL a).set i v).drop a.length = fourL a := by
      unfold sealL
      rw [List.set_append_left _ _ h, List.drop_left' (by simp)]
    have e3 := congrArg (List.drop a.length) e
    rw [e2, e1] at e3
    have e4 : (sealL (a.set i v)).drop a.length = fourL (a.set i v) := by
      unfold sealL
      rw [List.drop_left' (by simp)]
    rw [e4] at e3
    have hc : crcN (a.set i v) = crcN a := sum4_inj (crcN_lt _) (crcN_lt _) e3
    have d : a = a.take i ++ a[i] :: a.drop (i + 1) := by rw [← List.drop_eq_getElem_cons h, List.take_append_drop]
    have d2 : a.set i v = a.take i ++ v :: a.drop (i + 1) := by rw [List.set_eq_take_append_cons_drop, if_pos h]
    rw [d2] at hc
    have := crcN_change (a.take i) (a.drop (i + 1)) (hc.trans (congrArg crcN d))
    refine hv ?_
    unfold sealL
    rw [List.getElem?_append_left h, List.getElem?_eq_getElem h, ← this]
  · have e1 : ((sealL a).set i v).take a.length = a := by
      unfold sealL
      rw [List.set_append_right _ _ (by omega), List.take_left' rfl]
    rw [e1] at e
    refine hv ?_
    rw [e, List.getElem?_set_self (by rw [sealL_len]; exact hi)]
theorem opnL_bad {s : List UInt8} (h : s.length < 4 ∨ sealL (s.take (s.length - 4)) ≠ s) : opnL s = ([], false) := by
  unfold opnL
  rw [if_pos h]
theorem place_turned {ok : List UInt8 → Bool} (t : Nat) (k : List UInt8) (i : Nat) (d : UInt8) (n : Nat) (hi : i < (markP t k).length) (hd : uhD d = some n) (hne : (markP t k)[i]? ≠ some d) : placeP ok ((markP t k).set i d) = (0, [], 4) := by
  unfold markP at hi hne ⊢
  obtain ⟨x, ⟨hl, hx⟩, e⟩ := hex_set (sealL (plcB t k)) i d n hi hd hne
  unfold placeP
  rw [e]
  simp only
  have hl' := hl
  rw [sealL_len] at hl'
  have hb : opnL ((sealL (plcB t k)).set (i / 2) x) = ([], false) := by
    refine opnL_bad (.inr ?_)
    rw [List.length_set, sealL_len, Nat.add_sub_cancel]
    refine sealL_turn _ _ _ hl' ?_
    rw [List.getElem?_eq_getElem hl]
    intro h
    exact hx (Option.some.inj h).symm
  rw [hb]
def refP (ok : List UInt8 → Bool) (m : List UInt8) : Nat × List UInt8 × Int :=
  match rawP m with
  | none => (0, [], 3)
  | some s =>
    if s.length < 4 ∨ sealL (s.take (s.length - 4)) ≠ s then (0, [], 4)
    else if s.length < 6 ∨ 3 < (s.getD 0 0).toNat then (0, [], 3)
    else if mayN ok (s.getD 0 0).toNat ((s.take (s.length - 4)).drop 2) = true ∧ markP (s.getD 0 0).toNat ((s.take (s.length - 4)).drop 2) = m then ((s.getD 0 0).toNat, (s.take (s.length - 4)).drop 2, 0)
    else (0, [], 3)
theorem hexP_inj {s t : List UInt8} (h : hexP s = hexP t) : s = t := by
  have := raw_hex s
  rw [h, raw_hex t] at this
  exact (Option.some.inj this).symm
theorem sealL_inj {s t : List UInt8} (h : sealL s = sealL t) : s = t := by
  have := opnL_seal s
  rw [h, opnL_seal t] at this
  exact (Prod.mk.inj this).1.symm
theorem refP_eq {ok : List UInt8 → Bool} (hok : ∀ k, ok k = true → k.length ≤ 24) (m : List UInt8) : refP ok m = placeP ok m := by
  unfold refP placeP
  cases hr : rawP m with
  | none => rfl
  | some s =>
    simp only
    have hm := hex_raw m s hr
    by_cases hb : s.length < 4 ∨ sealL (s.take (s.length - 4)) ≠ s
    · rw [if_pos hb, opnL_bad hb]
    · rw [if_neg hb]
      have ho : opnL s = (s.take (s.length - 4), true) := by unfold opnL; rw [if_neg hb]
      rw [ho]
      simp only
      have h4 : 4 ≤ s.length := by omega
      have hs : sealL (s.take (s.length - 4)) = s := by
        by_cases e : sealL (s.take (s.length - 4)) = s
        · exact e
        · exact absurd (.inr e) hb
      have hlen : (s.take (s.length - 4)).length = s.length - 4 := by rw [List.length_take]; omega
      generalize hbb : s.take (s.length - 4) = b at *
      match b, hlen, hs with
      | [], hlen, hs =>
        simp only [List.length_nil] at hlen
        rw [if_pos (.inl (by omega))]; rfl
      | [x], hlen, hs =>
        simp only [List.length_cons, List.length_nil] at hlen
        rw [if_pos (.inl (by omega))]; rfl
      | x :: n :: k, hlen, hs =>
        simp only [List.length_cons] at hlen
        have h0 : s.getD 0 0 = x := by rw [← hs]; rfl
        rw [h0]
        show (if s.length < 6 ∨ 3 < x.toNat then _ else if mayN ok x.toNat k = true ∧ markP x.toNat k = m then _ else _) = _
        by_cases h3 : 3 < x.toNat
        · rw [if_pos (.inr h3)]
          have e : rdB ok (x :: n :: k) = none := by
            show (if _ then _ else _) = _
            exact if_neg (fun h => by have := h.1; omega)
          rw [e]
        · rw [if_neg (by omega)]
          by_cases hy : mayN ok x.toNat k = true ∧ markP x.toNat k = m
          · rw [if_pos hy]
            have e : plcB x.toNat k = x :: n :: k := by
              apply sealL_inj
              apply hexP_inj
              rw [hs, hm]
              exact hy.2
            have := rd_plc hok hy.1
            rw [e] at this
            rw [this]
            rfl
          · rw [if_neg hy]
            cases hd : rdB ok (x :: n :: k) with
            | none => rfl
            | some p =>
              obtain ⟨h1, h2⟩ := plc_rd hok (t := p.1) (k := p.2) hd
              refine absurd ?_ hy
              unfold rdB at hd
              simp only at hd
              split at hd
              · cases hd
                exact ⟨h1, by unfold markP; rw [← h2, hs, hm]⟩
              · cases hd
def prgB (ok : List UInt8 → Bool) (b : List UInt8) : Option (Nat × List UInt8) :=
  match decN b with
  | none => none
  | some (t, r) => if 4 < t then none else match decN r with
    | none => none
    | some (n, k) => if 24 < n ∨ k.length ≠ n ∨ ¬ mayN ok t k = true then none else some (t, k)
theorem prgB_eq {ok : List UInt8 → Bool} (hok : ∀ k, ok k = true → k.length ≤ 24) (b : List UInt8) : prgB ok b = rdB ok b := by
  cases hr : rdB ok b with
  | some p =>
    obtain ⟨t, k⟩ := p
    obtain ⟨h1, rfl⟩ := plc_rd hok hr
    have h := h1
    unfold mayN at h
    rw [Bool.and_eq_true, decide_eq_true_eq] at h
    have hk := hok k h.2
    unfold prgB plcB
    rw [decN_num t _ (by omega)]
    simp only
    rw [if_neg (by omega), decN_num k.length _ (by omega)]
    simp only
    rw [if_neg]
    rintro (h' | h' | h')
    · omega
    · exact h' rfl
    · exact h' h1
  | none =>
    unfold prgB
    cases h1 : decN b with
    | none => rfl
    | some p =>
      obtain ⟨t, r⟩ := p
      simp only
      split
      · rfl
      · cases h2 : decN r with
        | none => rfl
        | some q =>
          obtain ⟨n, k⟩ := q
          simp only
          split
          · rfl
          · rename_i h4 h5
            have hy : mayN ok t k = true := by
              by_cases h : mayN ok t k = true
              · exact h
              · exact absurd (.inr (.inr h)) h5
            have hn : k.length = n := by
              by_cases h : k.length = n
              · exact h
              · exact absurd (.inr (.inl h)) h5
            have e : b = plcB t k := by
              rw [(decN_inv h1).1, (decN_inv h2).1, ← hn]; rfl
            rw [e, rd_plc hok hy] at hr
            cases hr
end Go.Vm
