/- Marks of places: what the program and the document do. No condition. -/
import Derived.Test.YtgeafoacmnlioaaDoorPpg1
import Derived.Test.YtgeafoacmnlioaaDoorPe3
import Derived.Test.YtgeafoacmnlioaaDoorPcrc2
import Derived.Test.YtgeafoacmnlioaaDoorFpage
import Derived.Test.YtgeafoacmnlioaaDoorFref42
namespace Go.Vm
open Go Go.Proofs
set_option linter.unusedVariables false
set_option linter.unusedSimpArgs false
/-! ### digits -/
abbrev dgS : List UInt8 := [48, 49, 50, 51, 52, 53, 54, 55, 56, 57, 97, 98, 99, 100, 101, 102]
theorem hx_hi (c : UInt8) : idx dgS (shr .u8 (c.toNat : Int) 4) = some (hxD (c.toNat / 16)) :=
  (show ∀ c : Fin 256, idx dgS (shr .u8 ((c.val : Nat) : Int) 4) = some (hxD (c.val / 16)) by decide +kernel) ⟨c.toNat, c.toNat_lt⟩
theorem hx_lo (c : UInt8) : idx dgS (iand .u8 (c.toNat : Int) 15) = some (hxD (c.toNat % 16)) :=
  (show ∀ c : Fin 256, idx dgS (iand .u8 ((c.val : Nat) : Int) 15) = some (hxD (c.val % 16)) by decide +kernel) ⟨c.toNat, c.toNat_lt⟩
theorem rhx_hi (c : UInt8) : sub dgS (IntKind.u8.wrap ((c.toNat : Int).tdiv 16)) (IntKind.u8.wrap (IntKind.u8.wrap ((c.toNat : Int).tdiv 16) + 1)) = some [hxD (c.toNat / 16)] :=
  (show ∀ c : Fin 256, sub dgS (IntKind.u8.wrap (((c.val : Nat) : Int).tdiv 16)) (IntKind.u8.wrap (IntKind.u8.wrap (((c.val : Nat) : Int).tdiv 16) + 1)) = some [hxD (c.val / 16)] by decide +kernel) ⟨c.toNat, c.toNat_lt⟩
theorem rhx_lo (c : UInt8) : sub dgS ((c.toNat : Int).tmod 16) (IntKind.u8.wrap ((c.toNat : Int).tmod 16 + 1)) = some [hxD (c.toNat % 16)] :=
  (show ∀ c : Fin 256, sub dgS (((c.val : Nat) : Int).tmod 16) (IntKind.u8.wrap (((c.val : Nat) : Int).tmod 16 + 1)) = some [hxD (c.val % 16)] by decide +kernel) ⟨c.toNat, c.toNat_lt⟩
theorem byte_bk (v : UInt8) : UInt8.ofNat ((v.toNat : Int)).toNat = v := by simp
theorem drop_step {α : Type} (s : List α) (k : Nat) (h : k < s.length) : s.drop k = s[k] :: s.drop (k + 1) := by simp
theorem hex_loop (s : List UInt8) (hs : s.length ≤ 1000000) : ∀ (m k : Nat) (out : List UInt8), k + m = s.length → out.length = 2 * k → TendsL M_sha_Hex_l0 (s, (), (s.length : Int), (k : Int), out, ()) ((), out ++ hexP (s.drop k), ())
  | 0, k, out, hk, ho => by
    refine TendsL.fin (.of fun F => ?_)
    unfold M_sha_Hex_l0
    rw [List.drop_of_length_le (by omega)]
    rw [if_neg (by simp; omega)]
    simp [hexP]
  | m + 1, k, out, hk, ho => by
    have hlt : k < s.length := by omega
    have ih := hex_loop s hs m (k + 1) (out ++ [hxD (s[k].toNat / 16), hxD (s[k].toNat % 16)]) (by omega) (by simp; omega)
    refine TendsL.step (x' := (s, (), (s.length : Int), ((k + 1 : Nat) : Int), out ++ [hxD (s[k].toNat / 16), hxD (s[k].toNat % 16)], ())) (.of fun F => ?_) ?_
    · unfold M_sha_Hex_l0
      rw [if_pos (by simpa using hlt)]
      simp only [idxN s k (k : Int) rfl hlt, Option.bind_some, hx_hi, hx_lo, byte_bk]
      rw [if_pos (by simp; omega), next_nat k (by omega)]
    · rw [drop_step s k hlt]
      simp only [hexP]
      rw [show out ++ hxD (s[k].toNat / 16) :: hxD (s[k].toNat % 16) :: hexP (s.drop (k + 1)) = (out ++ [hxD (s[k].toNat / 16), hxD (s[k].toNat % 16)]) ++ hexP (s.drop (k + 1)) by simp]
      exact ih
theorem hex_tends (s : List UInt8) (hs : s.length ≤ 1000000) : Tends (fun F => M_sha_Hex F s) (hexP s) := by
  have h := hex_loop s hs s.length 0 [] (by omega) rfl
  rw [List.drop_zero, List.nil_append] at h
  unfold M_sha_Hex
  exact Tends.bind h.run (.ret _)
theorem rhex_loop (s : List UInt8) (hs : s.length ≤ 1000000) : ∀ (m k : Nat) (out : List UInt8), k + m = s.length → out.length = 2 * k → TendsL M_conciergeref42_Hex_l0 (s, dgS, out, (k : Int), ()) (out ++ hexP (s.drop k), ())
  | 0, k, out, hk, ho => by
    refine TendsL.fin (.of fun F => ?_)
    unfold M_conciergeref42_Hex_l0
    rw [List.drop_of_length_le (by omega)]
    rw [if_neg (by simp; omega)]
    simp [hexP]
  | m + 1, k, out, hk, ho => by
    have hlt : k < s.length := by omega
    have ih := rhex_loop s hs m (k + 1) (out ++ [hxD (s[k].toNat / 16)] ++ [hxD (s[k].toNat % 16)]) (by omega) (by simp; omega)
    refine TendsL.step (x' := (s, dgS, out ++ [hxD (s[k].toNat / 16)] ++ [hxD (s[k].toNat % 16)], ((k + 1 : Nat) : Int), ())) (.of fun F => ?_) ?_
    · unfold M_conciergeref42_Hex_l0
      rw [if_pos (by simpa using hlt)]
      simp only [idxN s k (k : Int) rfl hlt, Option.bind_some, rhx_hi, rhx_lo]
      rw [if_pos (by simp; omega), if_pos (by simp; omega), next_nat k (by omega)]
    · rw [drop_step s k hlt]
      simp only [hexP]
      rw [show out ++ hxD (s[k].toNat / 16) :: hxD (s[k].toNat % 16) :: hexP (s.drop (k + 1)) = (out ++ [hxD (s[k].toNat / 16)] ++ [hxD (s[k].toNat % 16)]) ++ hexP (s.drop (k + 1)) by simp]
      exact ih
theorem rhex_tends (s : List UInt8) (hs : s.length ≤ 1000000) : Tends (fun F => M_conciergeref42_Hex F s) (hexP s) := by
  have h := rhex_loop s hs s.length 0 [] (by omega) rfl
  rw [List.drop_zero, List.nil_append] at h
  unfold M_conciergeref42_Hex
  exact Tends.bind h.run (.ret _)
/-! ### may a place be? -/
def mayI (t : Int) (k : List UInt8) : Bool := decide (0 ≤ t) && (decide (t < 4) && keyF k)
theorem may_t (t : Int) (k : List UInt8) : Tends (fun F => M_page_may F (t, k)) (mayI t k) := by
  unfold M_page_may mayI
  by_cases h0 : 0 ≤ t
  · rw [decide_eq_true h0, Bool.true_and]
    refine Tends.bind (r := (k, decide (t < 4), ())) (.of fun F => if_pos rfl) ?_
    cases hd : decide (t < 4)
    · exact Tends.bind (r := (false, ())) (.of fun F => if_neg (by simp)) (.ret _)
    · rw [Bool.true_and]
      exact Tends.bind (r := (keyF k, ())) (Tends.pos rfl (Tends.bind (key_tends k) (.ret _))) (.ret _)
  · rw [decide_eq_false h0, Bool.false_and]
    refine Tends.bind (r := (k, false, ())) (.of fun F => if_neg (by simp)) ?_
    exact Tends.bind (r := (false, ())) (.of fun F => if_neg (by simp)) (.ret _)
theorem rmay_t (t : Int) (k : List UInt8) : Tends (fun F => M_conciergeref42_May F (t, k)) (mayI t k) := by
  unfold M_conciergeref42_May mayI
  have e : decide (t < 4) = decide (t ≤ 3) := by rw [decide_eq_decide]; omega
  rw [e]
  by_cases h0 : 0 ≤ t
  · rw [decide_eq_true h0, Bool.true_and]
    refine Tends.bind (r := (k, decide (t ≤ 3), ())) (.of fun F => if_pos rfl) ?_
    cases hd : decide (t ≤ 3)
    · exact Tends.bind (r := (false, ())) (.of fun F => if_neg (by simp)) (.ret _)
    · rw [Bool.true_and]
      exact Tends.bind (r := (keyF k, ())) (Tends.pos rfl (Tends.bind (rkey_tends k) (.ret _))) (.ret _)
  · rw [decide_eq_false h0, Bool.false_and]
    refine Tends.bind (r := (k, false, ())) (.of fun F => if_neg (by simp)) ?_
    exact Tends.bind (r := (false, ())) (.of fun F => if_neg (by simp)) (.ret _)
theorem mayI_nat (t : Nat) (k : List UInt8) : mayI (t : Int) k = mayN keyF t k := by
  unfold mayI mayN
  have e1 : decide (0 ≤ (t : Int)) = true := decide_eq_true (by omega)
  have e2 : decide ((t : Int) < 4) = decide (t < 4) := by rw [decide_eq_decide]; omega
  rw [e1, e2, Bool.true_and]
/-! ### marks -/
theorem ptext42 (b s : List UInt8) (hb : b.length ≤ 100000) (hs : s.length ≤ 1000) : Tends (fun F => M_pack_Packer_Text F ((b, false, ()), s)) ((), (b ++ txt s, false, ())) := by
  have hl := numL_len s.length (by omega)
  unfold M_pack_Packer_Text
  refine Tends.bind (m := fun F => M_pack_Packer_Num F ((b, false, ()), (s.length : Int))) (pnum_tends b (by omega) s.length (by omega)) ?_
  refine Tends.bind (m := fun F => M_pack_Packer_Raw F ((b ++ numL s.length, false, ()), s)) (r := ((), (b ++ numL s.length ++ s, false, ()))) (.of fun F => ?_) (.of fun F => ?_)
  · unfold M_pack_Packer_Raw
    simp only
    rw [if_pos (by simp; omega)]
    rfl
  · simp only [txt, List.append_assoc]
theorem rtext42 (s : List UInt8) (hs : s.length ≤ 1000) : Tends (fun F => M_conciergeref01_Text F s) (txt s) := by
  have hl := numL_len s.length (by omega)
  unfold M_conciergeref01_Text
  exact Tends.bind (rnum_tends s.length (by omega)) (Tends.pos (by simp; omega) (.ret _))
theorem rseal42 (s : List UInt8) (hs : s.length ≤ 1000000) : Tends (fun F => M_conciergeref02_Seal F s) (sealL s) := by
  unfold M_conciergeref02_Seal
  have hq : ∀ (n : Nat) (d : Nat), IntKind.u32.wrap (((n : Nat) : Int).tdiv ((d + 1 : Nat) : Int)) = (((n % 4294967296) / (d + 1) : Nat) : Int) ∨ 4294967296 ≤ n := by
    intro n d
    by_cases hn : n < 4294967296
    · left
      rw [Nat.mod_eq_of_lt hn, Int.tdiv_eq_ediv_of_nonneg (by omega)]
      have : ((n : Int) / ((d + 1 : Nat) : Int)) = ((n / (d + 1) : Nat) : Int) := by push_cast; rfl
      rw [this]
      have h2 := Nat.div_le_self n (d + 1)
      generalize n / (d + 1) = q at h2 ⊢
      exact wrapU32 _ (by omega) (by omega)
    · right; omega
  have hc := crcN_lt s
  have e : ∀ d : Nat, IntKind.u32.wrap (((crcN s : Nat) : Int).tdiv ((d + 1 : Nat) : Int)) = ((crcN s / (d + 1) : Nat) : Int) := by
    intro d
    rcases hq (crcN s) d with h | h
    · rw [h, Nat.mod_eq_of_lt hc]
    · omega
  refine Tends.bind (rof_tends s (by omega)) (Tends.bind (r := (sealL s, ())) (.of fun F => ?_) (.ret _))
  have e1 : IntKind.u32.wrap (((crcN s : Nat) : Int).tdiv 16777216) = ((crcN s / 16777216 : Nat) : Int) := e 16777215
  have e2 : IntKind.u32.wrap (((crcN s : Nat) : Int).tdiv 65536) = ((crcN s / 65536 : Nat) : Int) := e 65535
  have e3 : IntKind.u32.wrap (((crcN s : Nat) : Int).tdiv 256) = ((crcN s / 256 : Nat) : Int) := e 255
  have f1 : [UInt8.ofNat (IntKind.u8.wrap (IntKind.u32.wrap (((crcN s : Nat) : Int).tdiv 16777216))).toNat, UInt8.ofNat (IntKind.u8.wrap (IntKind.u32.wrap (((crcN s : Nat) : Int).tdiv 65536))).toNat, UInt8.ofNat (IntKind.u8.wrap (IntKind.u32.wrap (((crcN s : Nat) : Int).tdiv 256))).toNat, UInt8.ofNat (IntKind.u8.wrap ((crcN s : Nat) : Int)).toNat] = sum4 (crcN s) := by
    unfold sum4
    rw [byteU (crcN s / 16777216) _ e1, byteU (crcN s / 65536) _ e2, byteU (crcN s / 256) _ e3, byteU (crcN s) _ rfl]
  rw [f1, if_pos (by simp [sum4]; omega)]
  rfl
theorem plc_len (t : Nat) (k : List UInt8) (ht : t < 128) (hk : k.length < 128) : (plcB t k).length = 2 + k.length := by
  rw [plcB_small ht hk]; simp; omega
theorem mark_t (t : Int) (k : List UInt8) : Tends (fun F => M_page_Mark F (t, k)) (if mayI t k = true then (markP t.toNat k, 0) else ([], 1)) := by
  unfold M_page_Mark
  refine Tends.bind (may_t t k) ?_
  cases hm : mayI t k with
  | false => exact Tends.pos rfl (.ret _)
  | true =>
    obtain ⟨n, rfl⟩ : ∃ n : Nat, t = (n : Int) := by
      unfold mayI at hm
      rw [Bool.and_eq_true, decide_eq_true_eq] at hm
      exact ⟨t.toNat, by omega⟩
    rw [mayI_nat] at hm
    unfold mayN at hm
    rw [Bool.and_eq_true, decide_eq_true_eq] at hm
    have hk := keyF_len hm.2
    rw [if_pos rfl, Int.toNat_natCast]
    refine Tends.neg (by simp) ?_
    refine Tends.bind (m := fun F => M_pack_Packer_Num F (([], false, ()), (n : Int))) (pnum_tends [] (by simp) n (by omega)) ?_
    have hn : (numL n).length ≤ 10 := numL_len n (by omega)
    refine Tends.bind (m := fun F => M_pack_Packer_Text F (([] ++ numL n, false, ()), k)) (ptext42 _ k (by simp; omega) (by omega)) ?_
    refine Tends.bind (m := fun F => M_pack_Packer_String F ([] ++ numL n ++ txt k, false, ())) (r := (numL n ++ txt k, numL n ++ txt k, false, ())) (.of fun F => rfl) ?_
    have e : numL n ++ txt k = plcB n k := rfl
    rw [e]
    have hl := plc_len n k (by omega) (by omega)
    refine Tends.bind (seal_tends (plcB n k) (by omega)) ?_
    exact Tends.bind (hex_tends (sealL (plcB n k)) (by rw [sealL_len]; omega)) (.ret _)
theorem rmark_t (n : Nat) (k : List UInt8) (hn : n < 4) (hk : k.length ≤ 24) : Tends (fun F => M_conciergeref42_Mark F ((n : Int), k)) (markP n k) := by
  unfold M_conciergeref42_Mark
  have hl := plc_len n k (by omega) (by omega)
  have e : numL n ++ txt k = plcB n k := rfl
  have hl2 : (numL n ++ txt k).length = 2 + k.length := hl
  rw [List.length_append] at hl2
  refine Tends.bind (rnum_tends n (by omega)) (Tends.bind (rtext42 k (by omega)) ?_)
  refine Tends.pos (by rw [decide_eq_true_eq]; omega) ?_
  rw [e]
  refine Tends.bind (rseal42 (plcB n k) (by omega)) ?_
  exact Tends.bind (rhex_tends (sealL (plcB n k)) (by rw [sealL_len]; omega)) (.ret _)
/-! ### back -/
def dgI (c : UInt8) : Int := match uhD c with
  | some n => (n : Int)
  | none => -1
theorem dig_at (F : Nat) (c : UInt8) : M_strings_IndexByte F (dgS, (c.toNat : Int)) = some (dgI c) := by
  have h := (show ∀ c : Fin 256, M_strings_IndexByte 0 (dgS, ((c.val : Nat) : Int)) = some (dgI (UInt8.ofNat c.val)) by decide +kernel) ⟨c.toNat, c.toNat_lt⟩
  have h' : M_strings_IndexByte F (dgS, (c.toNat : Int)) = _ := h
  rw [h']
  simp
theorem rdig_at (F : Nat) (c : UInt8) : M_conciergeref42_digit F (c.toNat : Int) = some (dgI c) := by
  have h := (show ∀ c : Fin 256, M_conciergeref42_digit 0 ((c.val : Nat) : Int) = some (dgI (UInt8.ofNat c.val)) by decide +kernel) ⟨c.toNat, c.toNat_lt⟩
  have h' : M_conciergeref42_digit F (c.toNat : Int) = _ := h
  rw [h']
  simp
theorem two_dig (x y : Nat) (hx : x < 16) (hy : y < 16) : UInt8.ofNat (IntKind.u8.wrap (ior .i64 (shl .i64 (x : Int) 4) (y : Int))).toNat = UInt8.ofNat (x * 16 + y) :=
  (show ∀ x y : Fin 16, UInt8.ofNat (IntKind.u8.wrap (ior .i64 (shl .i64 ((x.val : Nat) : Int) 4) ((y.val : Nat) : Int))).toNat = UInt8.ofNat (x.val * 16 + y.val) by decide +kernel) ⟨x, hx⟩ ⟨y, hy⟩
theorem rtwo_dig (x y : Nat) (hx : x < 16) (hy : y < 16) : UInt8.ofNat (IntKind.u8.wrap (IntKind.i64.wrap (IntKind.i64.wrap ((x : Int) * 16) + (y : Int)))).toNat = UInt8.ofNat (x * 16 + y) :=
  (show ∀ x y : Fin 16, UInt8.ofNat (IntKind.u8.wrap (IntKind.i64.wrap (IntKind.i64.wrap (((x.val : Nat) : Int) * 16) + ((y.val : Nat) : Int)))).toNat = UInt8.ofNat (x.val * 16 + y.val) by decide +kernel) ⟨x, hx⟩ ⟨y, hy⟩
theorem next2 (i : Nat) (h : i < 9000000000000000) : IntKind.i64.wrap ((i : Int) + 2) = ((i + 2 : Nat) : Int) := by rw [wrap64] <;> omega
def rawR (out : List UInt8) (l : List UInt8) : (Unit × List UInt8 × Unit) ⊕ (List UInt8 × Bool × Unit) := match rawP l with
  | some t => .inl ((), out ++ t, ())
  | none => .inr ([], false, ())
theorem raw_loop (s : List UInt8) (hs : s.length ≤ 1000000) : ∀ (m k : Nat) (out : List UInt8), k + 2 * m = s.length → 2 * out.length = k → TendsL M_page_raw_l0 (s, (), (k : Int), out, ()) (rawR out (s.drop k))
  | 0, k, out, hk, ho => by
    refine TendsL.fin (.of fun F => ?_)
    unfold M_page_raw_l0
    rw [List.drop_of_length_le (by omega), if_neg (by simp; omega)]
    simp [rawR, rawP]
  | m + 1, k, out, hk, ho => by
    have h0 : k < s.length := by omega
    have h1 : k + 1 < s.length := by omega
    have hd : s.drop k = s[k] :: s[k + 1] :: s.drop (k + 2) := by rw [drop_step s k h0, drop_step s (k + 1) h1]
    rw [hd]
    have hst : ∀ F, M_page_raw_l0 F (s, (), (k : Int), out, ()) = if dgI s[k] < 0 ∨ dgI s[k + 1] < 0 then some (.inr (.inr ([], false, ()))) else some (.inl (s, (), ((k + 2 : Nat) : Int), out ++ [UInt8.ofNat (IntKind.u8.wrap (ior .i64 (shl .i64 (dgI s[k]) 4) (dgI s[k + 1]))).toNat], ())) := by
      intro F
      unfold M_page_raw_l0
      rw [if_pos (by simpa using h0)]
      simp only [idxN s k (k : Int) rfl h0, Option.bind_some, dig_at, next_nat k (by omega), idxN s (k + 1) ((k + 1 : Nat) : Int) rfl h1, next2 k (by omega)]
      have lh : out.length + 1 ≤ 140737488355328 := by omega
      by_cases ha : dgI s[k] < 0
      · have hc : dgI s[k] < 0 ∨ dgI s[k + 1] < 0 := .inl ha
        rw [if_pos hc]
        simp [ha]
      · by_cases hb : dgI s[k + 1] < 0
        · have hc : dgI s[k] < 0 ∨ dgI s[k + 1] < 0 := .inr hb
          rw [if_pos hc]
          simp [ha, hb]
        · have hc : ¬ (dgI s[k] < 0 ∨ dgI s[k + 1] < 0) := by rintro (h | h) <;> contradiction
          have ha' : 0 ≤ dgI s[k] := by omega
          have hb' : 0 ≤ dgI s[k + 1] := by omega
          rw [if_neg hc]
          have lh' : out.length ≤ 140737488355327 := by omega
          have hn2 := next2 k (by omega)
          simp [ha', hb, lh', hn2]
    unfold rawR
    simp only [rawP]
    cases ha : uhD s[k] with
    | none =>
      have e : dgI s[k] < 0 := by unfold dgI; rw [ha]; decide
      exact TendsL.fin (.of fun F => by rw [hst, if_pos (.inl e)])
    | some x =>
      cases hb : uhD s[k + 1] with
      | none =>
        have e : dgI s[k + 1] < 0 := by unfold dgI; rw [hb]; decide
        exact TendsL.fin (.of fun F => by rw [hst, if_pos (.inr e)])
      | some y =>
        have ex : dgI s[k] = (x : Int) := by unfold dgI; rw [ha]
        have ey : dgI s[k + 1] = (y : Int) := by unfold dgI; rw [hb]
        have ih := raw_loop s hs m (k + 2) (out ++ [UInt8.ofNat (x * 16 + y)]) (by omega) (by simp; omega)
        refine TendsL.step (x' := (s, (), ((k + 2 : Nat) : Int), out ++ [UInt8.ofNat (x * 16 + y)], ())) (.of fun F => ?_) ?_
        · rw [hst, if_neg (by rw [ex, ey]; omega), ex, ey, two_dig x y (uhD_some ha).2 (uhD_some hb).2]
        · have e : rawR (out ++ [UInt8.ofNat (x * 16 + y)]) (s.drop (k + 2)) = (match Option.map (UInt8.ofNat (x * 16 + y) :: ·) (rawP (s.drop (k + 2))) with | some t => .inl ((), out ++ t, ()) | none => .inr ([], false, ())) := by
            unfold rawR
            cases rawP (s.drop (k + 2)) <;> simp
          rw [← e]
          exact ih
theorem raw_odd : ∀ (l : List UInt8), l.length % 2 = 1 → rawP l = none
  | [], h => by simp at h
  | [_], _ => rfl
  | a :: b :: s, h => by
    have ih := raw_odd s (by simp at h; omega)
    simp only [rawP, ih]
    cases uhD a <;> cases uhD b <;> rfl
def rawT (s : List UInt8) : List UInt8 × Bool := match rawP s with
  | some t => (t, true)
  | none => ([], false)
theorem raw_t (s : List UInt8) (hs : s.length ≤ 1000000) : Tends (fun F => M_page_raw F s) (rawT s) := by
  unfold M_page_raw rawT
  by_cases h2 : s.length % 2 = 0
  · have hm : (s.length : Int).tmod 2 = 0 := by rw [Int.tmod_eq_emod_of_nonneg (by omega)]; omega
    refine Tends.neg (by simp [hm]) ?_
    have h := raw_loop s hs (s.length / 2) 0 [] (by omega) rfl
    rw [List.drop_zero] at h
    refine Tends.bind h.run ?_
    unfold rawR
    cases rawP s with
    | none => exact .ret _
    | some t => exact .of fun F => by simp [sumC]
  · have hm : (s.length : Int).tmod 2 ≠ 0 := by rw [Int.tmod_eq_emod_of_nonneg (by omega)]; omega
    rw [raw_odd s (by omega)]
    exact Tends.pos (by simp [hm]) (.ret _)
def rdP (b : List UInt8) : Int × List UInt8 × Int := match prgB keyF b with
  | none => (0, [], 3)
  | some (t, k) => ((t : Int), k, 0)
theorem opened_eq (b : List UInt8) : (if (!(!(oText 24 (oNum 4 (b, false)).2).2.2 && decide ((oText 24 (oNum 4 (b, false)).2).2.1 = []))) || !mayI (oNum 4 (b, false)).1 (oText 24 (oNum 4 (b, false)).2).1 then ((0 : Int), ([] : List UInt8), (3 : Int)) else ((oNum 4 (b, false)).1, (oText 24 (oNum 4 (b, false)).2).1, 0)) = rdP b := by
  have bad : oText 24 (([] : List UInt8), true) = ([], ([], true)) := by simp [oText, obind, oNum, oRaw]
  unfold rdP prgB
  cases h1 : decN b with
  | none =>
    have e : oNum 4 (b, false) = (0, ([], true)) := by simp [oNum, h1]
    rw [e, bad]; simp
  | some p =>
    obtain ⟨t, r⟩ := p
    simp only
    by_cases h4 : 4 < t
    · have e : oNum 4 (b, false) = (0, ([], true)) := by simp only [oNum, h1]; rw [if_neg (by simp), if_neg (by omega)]
      rw [e, bad, if_pos h4]; simp
    · have e : oNum 4 (b, false) = ((t : Int), (r, false)) := by simp only [oNum, h1]; rw [if_neg (by simp), if_pos (by omega)]
      rw [e, if_neg h4]
      simp only
      cases h2 : decN r with
      | none =>
        have e2 : oText 24 (r, false) = ([], ([], true)) := by simp [oText, obind, oNum, h2, oRaw]
        rw [e2]; simp
      | some q =>
        obtain ⟨n, k⟩ := q
        simp only
        by_cases h24 : 24 < n
        · have e2 : oText 24 (r, false) = ([], ([], true)) := by
            have : oNum 24 (r, false) = (0, ([], true)) := by simp only [oNum, h2]; rw [if_neg (by simp), if_neg (by omega)]
            simp [oText, obind, this, oRaw]
          have hc : 24 < n ∨ k.length ≠ n ∨ ¬ mayN keyF t k = true := .inl h24
          rw [e2, if_pos hc]; simp
        · have e0 : oNum 24 (r, false) = ((n : Int), (k, false)) := by simp only [oNum, h2]; rw [if_neg (by simp), if_pos (by omega)]
          by_cases hkn : k.length < n
          · have e2 : oText 24 (r, false) = ([], ([], true)) := by
              simp only [oText, obind, e0, oRaw, Int.toNat_natCast]
              rw [if_pos (.inr hkn)]
            have hc : 24 < n ∨ k.length ≠ n ∨ ¬ mayN keyF t k = true := .inr (.inl (by omega))
            rw [e2, if_pos hc]; simp
          · have e2 : oText 24 (r, false) = (k.take n, (k.drop n, false)) := by
              simp only [oText, obind, e0, oRaw, Int.toNat_natCast]
              rw [if_neg (by simp; omega)]
            rw [e2]
            by_cases hke : k.length = n
            · rw [List.drop_of_length_le (by omega), List.take_of_length_le (by omega), mayI_nat]
              by_cases hm : mayN keyF t k = true
              · have hc : ¬ (24 < n ∨ k.length ≠ n ∨ ¬ mayN keyF t k = true) := by rintro (h | h | h) <;> first | omega | exact h hm
                rw [if_neg hc]; simp [hm]
              · have hc : 24 < n ∨ k.length ≠ n ∨ ¬ mayN keyF t k = true := .inr (.inr hm)
                rw [if_pos hc]; simp [hm]
            · have hne : k.drop n ≠ [] := by
                intro h
                have := congrArg List.length h
                simp at this
                omega
              have hc : 24 < n ∨ k.length ≠ n ∨ ¬ mayN keyF t k = true := .inr (.inl hke)
              rw [if_pos hc]
              simp [hne]
def plI (p : Nat × List UInt8 × Int) : Int × List UInt8 × Int := ((p.1 : Int), p.2.1, p.2.2)
theorem raw_len : ∀ (l s : List UInt8), rawP l = some s → 2 * s.length = l.length
  | [], s, h => by simp [rawP] at h; subst h; rfl
  | [_], s, h => by simp [rawP] at h
  | a :: b :: l, s, h => by
    simp only [rawP] at h
    split at h
    · obtain ⟨t, ht, rfl⟩ := Option.map_eq_some_iff.1 h
      have := raw_len l t ht
      simp; omega
    · cases h
theorem place_t (m : List UInt8) (hm : m.length ≤ 1000) : Tends (fun F => M_page_Place F m) (plI (placeP keyF m)) := by
  unfold M_page_Place
  refine Tends.bind (raw_t m (by omega)) ?_
  unfold rawT placeP
  cases hr : rawP m with
  | none => exact Tends.pos rfl (.ret _)
  | some s =>
    have hsl := raw_len m s hr
    refine Tends.neg (by simp) ?_
    refine Tends.bind (copen_tends s (by omega)) ?_
    simp only
    cases ho : opnL s with
    | mk b ok =>
      cases ok with
      | false => exact Tends.pos rfl (.ret _)
      | true =>
        refine Tends.neg (by simp) ?_
        refine Tends.bind (m := fun F => M_pack_Open F b) (r := (b, false, ())) (.of fun F => rfl) ?_
        refine Tends.bind (m := fun F => M_pack_Opener_Num F (st3 (b, false), ((4 : Nat) : Int))) (onum_tends (b, false) 4 (by decide)) ?_
        refine Tends.bind (m := fun F => M_pack_Opener_Text F (st3 (oNum 4 (b, false)).2, ((24 : Nat) : Int))) (otext_tends _ 24 (by decide)) ?_
        refine Tends.eq (r := rdP b) ?_ (by
          unfold rdP
          rw [prgB_eq (fun k h => keyF_len h)]
          simp only
          cases rdB keyF b with
          | none => rfl
          | some p => rfl)
        simp only
        rw [← opened_eq b]
        generalize hn : oNum 4 (b, false) = nn
        generalize hx : oText 24 nn.2 = xx
        have hmay := may_t nn.1 xx.1
        refine Tends.bind (r := (nn.1, xx.1, (!(!xx.2.2 && decide (xx.2.1 = []))) || !mayI nn.1 xx.1, ())) ?_ ?_
        · refine Tends.bind (m := fun F => M_pack_Opener_Done F (st3 xx.2)) (r := (!xx.2.2 && decide (xx.2.1 = []), st3 xx.2)) (.of fun F => odone_eq F _) ?_
          cases hd : (!xx.2.2 && decide (xx.2.1 = []))
          · exact Tends.neg (by simp) (.ret _)
          · refine Tends.pos rfl (Tends.bind hmay (.of fun F => ?_))
            simp
        · cases hd : ((!(!xx.2.2 && decide (xx.2.1 = []))) || !mayI nn.1 xx.1)
          · exact Tends.neg (by simp) (.of fun F => by simp)
          · exact Tends.pos rfl (.of fun F => by simp)
end Go.Vm
