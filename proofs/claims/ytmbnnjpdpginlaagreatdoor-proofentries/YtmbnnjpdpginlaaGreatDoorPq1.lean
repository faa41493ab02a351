/- Lists of entries, and which are small: plainly. No condition. -/
import Derived.Test.YtmbnnjpdpginlaaGreatDoorPe6
import Derived.Test.YtmbnnjpdpginlaaGreatDoorFsmall
namespace Go.Vm
open Go Go.Proofs
set_option linter.unusedVariables false
set_option linter.unusedSimpArgs false

def Ent.o (x : En) : Ent := ⟨x.1, x.2.1, x.2.2.1, x.2.2.2.1, x.2.2.2.2.1, x.2.2.2.2.2.1, x.2.2.2.2.2.2.1, x.2.2.2.2.2.2.2.1, x.2.2.2.2.2.2.2.2.1, x.2.2.2.2.2.2.2.2.2.1, x.2.2.2.2.2.2.2.2.2.2.1, x.2.2.2.2.2.2.2.2.2.2.2.1, x.2.2.2.2.2.2.2.2.2.2.2.2.1, x.2.2.2.2.2.2.2.2.2.2.2.2.2.1⟩
theorem Ent.list (l : List En) : ∃ m : List Ent, m.map Ent.t = l := ⟨l.map Ent.o, by rw [List.map_map]; exact (List.map_congr_left fun x _ => rfl).trans (List.map_id l)⟩
theorem idxT (l : List Ent) (i : Nat) (n : Int) (hn : n = (i : Int)) (h : i < l.length) : idx (l.map Ent.t) n = some l[i].t := by
  rw [idxN (l.map Ent.t) i n hn (by simpa using h)]
  simp

abbrev BdR : Type := Unit ⊕ (Bool × Unit)
def bdR (b : Bool) : BdR := if b = true then .inl () else .inr (false, ())
def Smalls (l : List Ent) : Prop := ∀ e ∈ l, e.key.length ≤ 100 ∧ e.pr.length ≤ 100 ∧ e.tx.length ≤ 100 ∧ e.me.length ≤ 100 ∧ e.pa.length ≤ 100 ∧ e.bo.length ≤ 100
/-! ### Small -/
def smE (e : Ent) : Bool := !(decide (100 < (e.key.length : Int)) || (decide (100 < (e.pr.length : Int)) || (decide (100 < (e.tx.length : Int)) || (decide (100 < (e.me.length : Int)) || (decide (100 < (e.pa.length : Int)) || decide (100 < (e.bo.length : Int)))))))
def smL (n : Int) (l : List Ent) : Bool := !decide (n < (l.length : Int)) && l.all smE
theorem small_loop (l : List Ent) (hl : l.length ≤ 1000000000000) : ∀ (m j : Nat), j + m = l.length → TendsL M_conciergelaw19_Small_l0 (l.map Ent.t, (l.length : Int), (j : Int), ()) (bdR ((l.drop j).all smE))
  | 0, j, hj => by
    refine TendsL.fin (.of fun F => ?_)
    unfold M_conciergelaw19_Small_l0
    rw [if_neg (by simp; omega), List.drop_of_length_le (by omega)]
    rfl
  | m + 1, j, hj => by
    have hlt : j < l.length := by omega
    have hd : l.drop j = l[j] :: l.drop (j + 1) := List.drop_eq_getElem_cons hlt
    obtain ⟨e, he⟩ : ∃ e, e = l[j] := ⟨_, rfl⟩
    have hi : idx (l.map Ent.t) (j : Int) = some e.t := by rw [idxT l j _ rfl hlt, he]
    have hst : ∀ F, M_conciergelaw19_Small_l0 F (l.map Ent.t, (l.length : Int), (j : Int), ()) = if smE e = true then some (.inl (l.map Ent.t, (l.length : Int), ((j + 1 : Nat) : Int), ())) else some (.inr (.inr (false, ()))) := by
      intro F
      unfold M_conciergelaw19_Small_l0 smE
      rw [if_pos (by simp; omega)]
      simp only [hi, Option.bind_some, next_nat j (by omega)]
      simp only [show e.t.2.1 = e.key from rfl, show e.t.2.2.2.2.2.2.1 = e.pr from rfl, show e.t.2.2.2.2.2.2.2.2.2.2.1 = e.tx from rfl, show e.t.2.2.2.2.2.2.2.2.2.2.2.1 = e.me from rfl, show e.t.2.2.2.2.2.2.2.2.2.2.2.2.1 = e.pa from rfl, show e.t.2.2.2.2.2.2.2.2.2.2.2.2.2.1 = e.bo from rfl]
      cases decide (100 < (e.key.length : Int))
      case true => rfl
      simp only [if_true, Option.bind_some, eq_self_iff_true, reduceIte, Bool.false_or]
      cases decide (100 < (e.pr.length : Int))
      case true => rfl
      simp only [if_true, Option.bind_some, eq_self_iff_true, reduceIte, Bool.false_or, show e.t.2.2.2.2.2.2.2.2.2.2.1 = e.tx from rfl]
      cases decide (100 < (e.tx.length : Int))
      case true => rfl
      simp only [if_true, Option.bind_some, eq_self_iff_true, reduceIte, Bool.false_or, show e.t.2.2.2.2.2.2.2.2.2.2.2.1 = e.me from rfl]
      cases decide (100 < (e.me.length : Int))
      case true => rfl
      simp only [if_true, Option.bind_some, eq_self_iff_true, reduceIte, Bool.false_or, show e.t.2.2.2.2.2.2.2.2.2.2.2.2.1 = e.pa from rfl]
      cases decide (100 < (e.pa.length : Int))
      case true => rfl
      simp only [if_true, Option.bind_some, eq_self_iff_true, reduceIte, Bool.false_or, show e.t.2.2.2.2.2.2.2.2.2.2.2.2.2.1 = e.bo from rfl]
      cases decide (100 < (e.bo.length : Int))
      case true => rfl
      simp only [if_true, Option.bind_some, eq_self_iff_true, reduceIte, Bool.false_or, next_nat j (by omega)]
      rfl
    rw [hd, ← he, List.all_cons]
    cases hs : smE e
    · exact TendsL.fin (.of fun F => by rw [hst F, hs]; rfl)
    · rw [Bool.true_and]
      exact TendsL.step (.of fun F => by rw [hst F, hs]; rfl) (small_loop l hl m (j + 1) (by omega))
theorem small_tends (l : List Ent) (n : Int) (hn : n ≤ 1000) : Tends (fun F => M_conciergelaw19_Small F (l.map Ent.t, n)) (smL n l) := by
  unfold M_conciergelaw19_Small smL
  simp only [List.length_map]
  by_cases h : n < (l.length : Int)
  · exact Tends.pos (by simpa using h) (.of fun F => by rw [decide_eq_true h]; rfl)
  · refine Tends.neg (by simpa using h) ?_
    rw [decide_eq_false h]
    have := small_loop l (by omega) l.length 0 (by omega)
    rw [List.drop_zero] at this
    refine Tends.bind this.run (.of fun F => ?_)
    unfold bdR
    cases l.all smE <;> rfl
theorem smE_le {e : Ent} (h : smE e = true) : e.key.length ≤ 100 ∧ e.pr.length ≤ 100 ∧ e.tx.length ≤ 100 ∧ e.me.length ≤ 100 ∧ e.pa.length ≤ 100 ∧ e.bo.length ≤ 100 := by
  unfold smE at h
  simp only [Bool.not_eq_true', Bool.or_eq_false_iff, decide_eq_false_iff_not] at h
  obtain ⟨h1, h2, h3, h4, h5, h6⟩ := h
  omega
theorem smL_parts {n : Int} {l : List Ent} (h : smL n l = true) : (l.length : Int) ≤ n ∧ Smalls l := by
  unfold smL at h
  simp only [Bool.and_eq_true, Bool.not_eq_true', decide_eq_false_iff_not, List.all_eq_true] at h
  refine ⟨by omega, fun e he => ?_⟩
  have := smE_le (h.2 e he)
  omega
theorem Smalls.sub {l l' : List Ent} (h : Smalls l) (hs : ∀ x ∈ l', x ∈ l) : Smalls l' := fun e he => h e (hs e he)

/-! ### the document's bytes of any entry at all -/
theorem rnum_any (x : Int) : ∃ b : List UInt8, Tends (fun F => M_conciergeref01_Num F x) b ∧ b.length ≤ 20 ∧ (0 ≤ x → x ≤ 4611686018427387904 → b = nI x) := by
  by_cases h : 0 ≤ x ∧ x ≤ 4611686018427387904
  · exact ⟨nI x, rnI x h.1 h.2, by have := nI_len x h.1 h.2; omega, fun _ _ => rfl⟩
  · have hw : ∃ m : Int, IntKind.i64.wrap (x.tdiv 128) = m ∧ m < 9223372036854775808 := by
      refine ⟨_, rfl, ?_⟩
      have := okInt_wrap .i64 (x.tdiv 128)
      simp only [IntKind.wrap, IntKind.signed, IntKind.bits]
      simp
      split <;> omega
    obtain ⟨m, hm, hlt⟩ := hw
    have key : ∃ b : List UInt8, TendsL M_conciergeref01_Num_l0 (m, [UInt8.ofNat (IntKind.u8.wrap (x.tmod 128)).toNat], ()) (b, ()) ∧ b.length ≤ 20 := by
      by_cases h0 : 0 < m
      · obtain ⟨k, rfl⟩ : ∃ k : Nat, m = (k : Int) := ⟨m.toNat, by omega⟩
        have hk : k < 128 ^ 9 := by rw [p9]; omega
        exact ⟨_, ref_digits [UInt8.ofNat (IntKind.u8.wrap (x.tmod 128)).toNat] (by simp) 9 k hk (by omega) _ (by simp), by have := hiL_len 9 k hk; simp; omega⟩
      · refine ⟨[UInt8.ofNat (IntKind.u8.wrap (x.tmod 128)).toNat], TendsL.fin (.of fun F => ?_), by simp⟩
        unfold M_conciergeref01_Num_l0
        rw [if_neg (by simpa using h0)]
    obtain ⟨b, hb, hl⟩ := key
    refine ⟨b, ?_, hl, fun a c => absurd ⟨a, c⟩ h⟩
    unfold M_conciergeref01_Num
    rw [hm]
    exact Tends.bind hb.run (.ret _)
theorem rbytes_any (e : Ent) (h : e.key.length ≤ 100 ∧ e.pr.length ≤ 100 ∧ e.tx.length ≤ 100 ∧ e.me.length ≤ 100 ∧ e.pa.length ≤ 100 ∧ e.bo.length ≤ 100) : ∃ b : List UInt8, Tends (fun F => M_conciergeref14_Bytes F e.t) b ∧ (mayB e = true → b = bytesE e) := by
  by_cases hm : mayB e = true
  · exact ⟨_, rbytes_tends e hm, fun _ => rfl⟩
  obtain ⟨s1, s2, s3, s4, s5, s6⟩ := h
  obtain ⟨b1, t1, l1, _⟩ := rnum_any e.te
  obtain ⟨b2, t2, l2, _⟩ := rnum_any e.st
  obtain ⟨b3, t3, l3, _⟩ := rnum_any e.ep
  obtain ⟨b4, t4, l4, _⟩ := rnum_any e.tk
  obtain ⟨b5, t5, l5, _⟩ := rnum_any e.pt
  obtain ⟨b6, t6, l6, _⟩ := rnum_any e.le
  obtain ⟨b7, t7, l7, _⟩ := rnum_any e.ex
  obtain ⟨b8, t8, l8, _⟩ := rnum_any e.su
  have n2 := txtb_len e.key (by omega)
  have m1 := txtb_len e.me (by omega)
  have m2 := txtb_len e.pa (by omega)
  have m3 := txtb_len e.bo (by omega)
  have m4 := txtb_len e.tx (by omega)
  suffices h : ∃ b : List UInt8, Tends (fun F => M_conciergeref14_Bytes F e.t) b by
    obtain ⟨b, hb⟩ := h
    exact ⟨b, hb, fun h => absurd h hm⟩
  obtain ⟨B, hB⟩ : ∃ B, B = b1 ++ txt e.key ++ b2 ++ b3 ++ b4 ++ b5 ++ e.pr ++ b6 ++ b7 := ⟨_, rfl⟩
  have lB : B.length ≤ 10000000 := by rw [hB]; simp; omega
  have first : Tends (fun F => (M_conciergeref01_Num F e.te).bind fun v0 => (M_conciergeref01_Text F e.key).bind fun v1 => if decide (v0.length + v1.length ≤ 9223372036854775807) = true then (M_conciergeref01_Num F e.st).bind fun v2 => if decide ((v0 ++ v1).length + v2.length ≤ 9223372036854775807) = true then (M_conciergeref01_Num F e.ep).bind fun v3 => if decide ((v0 ++ v1 ++ v2).length + v3.length ≤ 9223372036854775807) = true then (M_conciergeref01_Num F e.tk).bind fun v4 => if decide ((v0 ++ v1 ++ v2 ++ v3).length + v4.length ≤ 9223372036854775807) = true then (M_conciergeref01_Num F e.pt).bind fun v5 => if decide ((v0 ++ v1 ++ v2 ++ v3 ++ v4).length + v5.length ≤ 9223372036854775807) = true then if decide ((v0 ++ v1 ++ v2 ++ v3 ++ v4 ++ v5).length + e.pr.length ≤ 9223372036854775807) = true then (M_conciergeref01_Num F e.le).bind fun v6 => if decide ((v0 ++ v1 ++ v2 ++ v3 ++ v4 ++ v5 ++ e.pr).length + v6.length ≤ 9223372036854775807) = true then (M_conciergeref01_Num F e.ex).bind fun v7 => if decide ((v0 ++ v1 ++ v2 ++ v3 ++ v4 ++ v5 ++ e.pr ++ v6).length + v7.length ≤ 9223372036854775807) = true then some ((), v0 ++ v1 ++ v2 ++ v3 ++ v4 ++ v5 ++ e.pr ++ v6 ++ v7, e.t, ()) else none else none else none else none else none else none else none else none) (((), B, e.t, ()) : Unit × List UInt8 × En × Unit) := by
    rw [hB]
    refine Tends.bind t1 (Tends.bind (rtxt e.key (by omega)) (Tends.pos (by simp; omega) ?_))
    refine Tends.bind t2 (Tends.pos (by simp; omega) (Tends.bind t3 (Tends.pos (by simp; omega) (Tends.bind t4 (Tends.pos (by simp; omega) (Tends.bind t5 (Tends.pos (by simp; omega) (Tends.pos (by simp; omega) ?_))))))))
    exact Tends.bind t6 (Tends.pos (by simp; omega) (Tends.bind t7 (Tends.pos (by simp; omega) (.ret _))))
  unfold M_conciergeref14_Bytes
  by_cases h1 : e.st = 1
  · refine ⟨B ++ txt e.me ++ txt e.pa ++ txt e.bo, Tends.bind first ?_⟩
    refine Tends.bind (r := ((), B ++ txt e.me ++ txt e.pa ++ txt e.bo, e.t, ())) ?_ ?_
    · refine Tends.pos (by exact decide_eq_true h1) ?_
      refine Tends.bind (r := ((), B ++ txt e.me ++ txt e.pa ++ txt e.bo, e.t, ())) ?_ (.ret _)
      refine Tends.bind (m := fun F => M_conciergeref01_Text F e.me) (rtxt e.me (by omega)) (Tends.pos (by simp; omega) ?_)
      refine Tends.bind (m := fun F => M_conciergeref01_Text F e.pa) (rtxt e.pa (by omega)) (Tends.pos (by simp; omega) ?_)
      refine Tends.bind (m := fun F => M_conciergeref01_Text F e.bo) (rtxt e.bo (by omega)) (Tends.pos (by simp; omega) ?_)
      exact .ret _
    · have h2 : ¬ (e.st = 2) := by omega
      exact Tends.bind (r := (B ++ txt e.me ++ txt e.pa ++ txt e.bo, ())) (Tends.neg (fun h => h2 (of_decide_eq_true h)) (.ret _)) (.ret _)
  · by_cases h2 : e.st = 2
    · refine ⟨B ++ b8 ++ txt e.tx, Tends.bind first (Tends.bind (r := ((), B, e.t, ())) (Tends.neg (fun h => h1 (of_decide_eq_true h)) (.ret _)) ?_)⟩
      refine Tends.bind (r := (B ++ b8 ++ txt e.tx, ())) ?_ (.ret _)
      refine Tends.pos (by exact decide_eq_true h2) ?_
      refine Tends.bind (r := (B ++ b8 ++ txt e.tx, ())) ?_ (.ret _)
      refine Tends.bind (m := fun F => M_conciergeref01_Num F e.su) t8 (Tends.pos (by simp; omega) ?_)
      refine Tends.bind (m := fun F => M_conciergeref01_Text F e.tx) (rtxt e.tx (by omega)) (Tends.pos (by simp; omega) ?_)
      exact .ret _
    · refine ⟨B, Tends.bind first (Tends.bind (r := ((), B, e.t, ())) (Tends.neg (fun h => h1 (of_decide_eq_true h)) (.ret _)) ?_)⟩
      exact Tends.bind (r := (B, ())) (Tends.neg (fun h => h2 (of_decide_eq_true h)) (.ret _)) (.ret _)

end Go.Vm
