/- The laws of snapshots that rotted, and that are cut off, plainly. No condition. -/
import Derived.Test.YtmbnnjpdpginlaaDoorPsn4
namespace Go.Vm
open Go Go.Proofs
set_option linter.unusedVariables false
set_option linter.unusedSimpArgs false

theorem wrapU8 (n : Nat) (h : n < 256) : IntKind.u8.wrap (n : Int) = (n : Int) := by
  have := UInt8.toNat_ofNat_of_lt' (n := n) (by simpa using h)
  simp only [IntKind.wrap, IntKind.signed, IntKind.bits]
  simp
  omega
theorem ixorU8 (a b : Nat) (ha : a < 256) (hb : b < 256) : ixor .u8 (a : Int) (b : Int) = ((a ^^^ b : Nat) : Int) := by
  have h : a ^^^ b < 256 := Nat.xor_lt_two_pow (n := 8) ha hb
  unfold ixor
  rw [BitVec.ofInt_natCast, BitVec.ofInt_natCast, BitVec.toNat_xor, BitVec.toNat_ofNat, BitVec.toNat_ofNat]
  rw [show IntKind.u8.bits = 8 from rfl, Nat.mod_eq_of_lt (by omega), Nat.mod_eq_of_lt (by omega), wrapU8 _ h]
theorem xor_ne (a : UInt8) (b : Int) (h0 : 0 < b) (h1 : b ≤ 255) : UInt8.ofNat (ixor .u8 (a.toNat : Int) b).toNat ≠ a := by
  obtain ⟨n, rfl⟩ : ∃ n : Nat, b = (n : Int) := ⟨b.toNat, by omega⟩
  have ha := a.toNat_lt
  have hx : a.toNat ^^^ n < 256 := Nat.xor_lt_two_pow (n := 8) (by omega) (by omega)
  rw [ixorU8 _ _ (by omega) (by omega), Int.toNat_natCast]
  intro e
  have e2 := congrArg UInt8.toNat e
  rw [UInt8.toNat_ofNat_of_lt' (by simpa using hx)] at e2
  have : n = 0 := xorL (a := a.toNat) (by rw [e2, Nat.xor_zero])
  omega
theorem need_eq (F : Nat) (n : Int) : M_snap_Need F n = some (IntKind.i64.wrap (20 + IntKind.i64.wrap (243 * (if n < 0 then 0 else if 200 < n then 200 else n)))) := by
  unfold M_snap_Need
  by_cases h : n < 0
  · simp [h]
  · by_cases h2 : 200 < n <;> simp [h, h2]
theorem rneed_eq (F : Nat) (n : Int) : M_conciergeref19_Need F n = some (IntKind.i64.wrap (20 + IntKind.i64.wrap (243 * (if n < 0 then 0 else if 200 < n then 200 else n)))) := by
  unfold M_conciergeref19_Need
  by_cases h : n < 0
  · simp [h]
  · by_cases h2 : 200 < n <;> simp [h, h2, Int.mul_comm]

theorem pure_conciergelaw19_SnapRot (l : List En) (at' : Int) (hat : (Lit.int .i64 at').wf = true) (by' : Int) (hby : (Lit.int .u8 by').wf = true) : ∃ F, M_conciergelaw19_SnapRot F (l, at', by') = some true := by
  have hb : 0 ≤ by' ∧ by' ≤ 255 := by simpa [Lit.wf, IntKind.min, IntKind.max, IntKind.signed, IntKind.bits] using hby
  clear hat hby
  obtain ⟨m, rfl⟩ := Ent.list l
  refine Tends.ex ?_
  unfold M_conciergelaw19_SnapRot
  refine Tends.bind awake19 (Tends.neg (by simp) ?_)
  refine Tends.bind (r := (m.map Ent.t, at', by', !smL 10 m || decide (by' = 0), ())) (Tends.bind (small_tends m 10 (by omega)) ?_) ?_
  · cases smL 10 m
    · exact .of fun F => rfl
    · exact .of fun F => rfl
  cases hs : smL 10 m
  · exact Tends.pos rfl (.ret _)
  cases h0 : decide (by' = 0)
  case true => exact Tends.pos rfl (.ret _)
  refine Tends.neg (by simp) ?_
  have h0' : by' ≠ 0 := of_decide_eq_false h0
  obtain ⟨q1, q2⟩ := smL_parts hs
  obtain ⟨l', hl1, hl2, hl3⟩ := sorted_tends m (by omega)
  have hs' : Smalls l' := q2.sub hl3
  refine Tends.bind hl1 (Tends.bind (swrite_tends l' (by omega) hs' 1073741824) ?_)
  cases hm : mayL l' 1073741824
  · exact Tends.pos rfl (Tends.bind hl1 (Tends.bind (rsmay_tends l' (by omega) 1073741824) (.of fun F => by rw [hm]; rfl)))
  rw [if_pos rfl]
  refine Tends.neg (by simp) ?_
  refine Tends.bind (r := (at', by', snapW l' 1073741824, decide (at' < 0 ∨ ((snapW l' 1073741824).length : Int) ≤ at'), ())) (.of fun F => ?_) ?_
  · by_cases h : at' < 0
    · simp [h]
    · simp [h]
  by_cases hA : at' < 0 ∨ ((snapW l' 1073741824).length : Int) ≤ at'
  · exact Tends.pos (decide_eq_true hA) (.ret _)
  refine Tends.neg (by simpa using hA) ?_
  obtain ⟨i, rfl⟩ : ∃ i : Nat, at' = (i : Int) := ⟨at'.toNat, by omega⟩
  have hi : i < (snapW l' 1073741824).length := by omega
  have hlen := snapW_len hm
  have hx : idx (snapW l' 1073741824) (i : Int) = some (snapW l' 1073741824)[i] := idxN _ i _ rfl hi
  have hne := xor_ne (snapW l' 1073741824)[i] by' (by omega) hb.2
  obtain ⟨v, hv⟩ : ∃ v, v = UInt8.ofNat (ixor .u8 ((snapW l' 1073741824)[i].toNat : Int) by').toNat := ⟨_, rfl⟩
  rw [← hv] at hne
  have hr := sread_tends ((snapW l' 1073741824).set i v) (by rw [List.length_set]; omega)
  rw [snapR_rot hm i v hi (by rw [List.getElem?_eq_getElem hi]; exact fun e => hne (Option.some.inj e).symm)] at hr
  refine Tends.pos (by rw [decide_eq_true_eq]; show (snapW l' 1073741824).length ≤ _; omega) (Tends.bind (.const hx) (Tends.bind (.const hx) ?_))
  refine Tends.bind (r := v) (Tends.bind (.const (by simpa using hx)) (.of fun F => by rw [hv])) ?_
  refine Tends.bind (r := ([], 0, 4, ())) (Tends.bind (m := fun F => M_snap_Read F ((snapW l' 1073741824).set i v)) hr (.ret _)) ?_
  exact .of fun F => rfl

theorem pure_conciergelaw19_SnapCut (l : List En) (left : Int) (more : List UInt8) : ∃ F, M_conciergelaw19_SnapCut F (l, left, more) = some true := by
  obtain ⟨m, rfl⟩ := Ent.list l
  refine Tends.ex ?_
  unfold M_conciergelaw19_SnapCut
  refine Tends.bind awake19 (Tends.neg (by simp) ?_)
  refine Tends.bind (r := (m.map Ent.t, left, more, !smL 10 m || decide (50 < (more.length : Int)), ())) (Tends.bind (small_tends m 10 (by omega)) ?_) ?_
  · cases smL 10 m
    · exact .of fun F => rfl
    · exact .of fun F => rfl
  cases hs : smL 10 m
  · exact Tends.pos rfl (.ret _)
  cases h0 : decide (50 < (more.length : Int))
  case true => exact Tends.pos rfl (.ret _)
  refine Tends.neg (by simp) ?_
  have h0' := of_decide_eq_false h0
  obtain ⟨q1, q2⟩ := smL_parts hs
  obtain ⟨l', hl1, hl2, hl3⟩ := sorted_tends m (by omega)
  have hs' : Smalls l' := q2.sub hl3
  refine Tends.bind hl1 (Tends.bind (swrite_tends l' (by omega) hs' 1073741824) ?_)
  cases hm : mayL l' 1073741824
  · exact Tends.pos rfl (Tends.bind hl1 (Tends.bind (rsmay_tends l' (by omega) 1073741824) (.of fun F => by rw [hm]; rfl)))
  rw [if_pos rfl]
  refine Tends.neg (by simp) ?_
  have hlen := snapW_len hm
  by_cases hmo : more = []
  · refine Tends.neg (by simp [hmo]) ?_
    refine Tends.bind (r := (left, snapW l' 1073741824, decide (left < 1 ∨ ((snapW l' 1073741824).length : Int) ≤ left), ())) (.of fun F => ?_) ?_
    · by_cases h : left < 1
      · simp [h]
      · simp [h]
    by_cases hA : left < 1 ∨ ((snapW l' 1073741824).length : Int) ≤ left
    · refine Tends.pos (decide_eq_true hA) (.of fun F => ?_)
      simp only [need_eq, rneed_eq, Option.bind_some, decide_true]
    refine Tends.neg (by simpa using hA) ?_
    obtain ⟨i, rfl⟩ : ∃ i : Nat, left = (i : Int) := ⟨left.toNat, by omega⟩
    have hr := sread_tends ((snapW l' 1073741824).take i) (by rw [List.length_take]; omega)
    rw [snapR_cut hm i (by omega) (by omega)] at hr
    have hsub : sub (snapW l' 1073741824) 0 (i : Int) = some ((snapW l' 1073741824).take i) := by
      have := subN (snapW l' 1073741824) 0 i (by omega) (by omega)
      rw [List.drop_zero, Nat.sub_zero] at this
      exact this
    refine Tends.bind (r := (3, ())) (Tends.bind (.const hsub) (Tends.bind hr (.ret _))) ?_
    exact .of fun F => rfl
  · have hr := sread_tends (snapW l' 1073741824 ++ more) (by rw [List.length_append]; omega)
    have hn := snapR_more hm more hmo (by omega)
    generalize snapR (snapW l' 1073741824 ++ more) = y at hr hn
    refine Tends.pos (by simp [hmo]) ?_
    refine Tends.bind (r := (y.2.2, ())) (Tends.pos (by rw [decide_eq_true_eq]; show (snapW l' 1073741824).length + more.length ≤ _; omega) (Tends.bind hr (.ret _))) (.of fun F => ?_)
    show some (!decide (y.2.2 = 0)) = _
    rw [decide_eq_false hn]
    rfl

end Go.Vm
