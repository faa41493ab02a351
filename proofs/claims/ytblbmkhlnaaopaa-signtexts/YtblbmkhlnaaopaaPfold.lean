/- The plain law of folding: the document's reference. No condition but on lengths. -/
import Derived.Test.YtblbmkhlnaaopaaPbytes
namespace Go.Vm
open Go.Lib (decodeL decodeN decodeL_N decode_N decodeN_shape decodeL_le)
set_option linter.unusedVariables false
set_option linter.unusedSimpArgs false

theorem idxAt {α : Type} (l : List α) (k : Nat) (x : α) (h : l[k]? = some x) : idx l (k : Int) = some x := by
  unfold idx
  rw [if_pos (by omega), Int.toNat_natCast, h]

theorem refFold_step (F : Nat) (out : List UInt8) (ns : List Int) (k c : Nat) (hc : okR c) (hk : ns[k]? = some (c : Int)) (ho : out.length ≤ 1000000000000) (hn : ns.length ≤ 1000000000000) :
    M_conciergeref04_Fold_l0 F (out, ns, (k : Int), ()) = some (.inl (out ++ enc8 (foldI (c : Int)), ns, ((k + 1 : Nat) : Int), ())) := by
  have hlt : k < ns.length := by
    rcases Nat.lt_or_ge k ns.length with h | h
    · exact h
    · rw [List.getElem?_eq_none h] at hk; cases hk
  have h : (k : Int) < (ns.length : Int) := by omega
  have hl := enc8_len (foldI (c : Int))
  have hb := refBytes_eq F (foldR c) (foldR_ok c hc)
  rw [← foldI_nat] at hb
  have hL : out.length + (enc8 (foldI (c : Int))).length ≤ 9223372036854775807 := by omega
  have hw : IntKind.i64.wrap ((k : Int) + 1) = ((k + 1 : Nat) : Int) := by rw [wrap64 _ (by omega) (by omega)]; rfl
  have c1 := hc.1
  have hw' : IntKind.i64.wrap ((c : Int) + 32) = (c : Int) + 32 := wrap64 _ (by omega) (by omega)
  unfold M_conciergeref04_Fold_l0
  simp only [h, decide_true, if_true, idxAt ns k _ hk, Option.bind_some, some_ite, prod_ite, ite_self, hw', Bool.if_true_right, Bool.if_true_left, Bool.if_false_left, Bool.if_false_right]
  suffices e : ∀ X, X = foldI (c : Int) → (M_conciergeref04_Bytes F X).bind (fun v7 => if decide (out.length + v7.length ≤ 9223372036854775807) = true then some (Sum.inl (out ++ v7, ns, IntKind.i64.wrap ((k : Int) + 1), ())) else none) = (some (.inl (out ++ enc8 (foldI (c : Int)), ns, ((k + 1 : Nat) : Int), ())) : Option ((List UInt8 × List Int × Int × Unit) ⊕ (List UInt8 × Unit))) by
    refine e _ ?_
    unfold foldI
    simp only [Bool.or_eq_true, Bool.and_eq_true, Bool.not_eq_true', decide_eq_true_eq, decide_eq_false_iff_not]
    repeat' split
    all_goals first | rfl | omega | (simp at *; omega)
  rintro X rfl
  simp only [hb, Option.bind_some, hL, decide_true, if_true, hw]

theorem refFoldLoop (ns : List Nat) (hns : ∀ c ∈ ns, okR c) (hn : ns.length ≤ 100000000000) (k : Nat) (hk : k ≤ ns.length) (out : List UInt8) (ho : out.length + 4 * (ns.length - k) ≤ 1000000000000) :
    TendsL M_conciergeref04_Fold_l0 (out, ns.map fun c : Nat => (c : Int), (k : Int), ()) (out ++ (ns.drop k).flatMap (fun c : Nat => enc8 (foldI (c : Int))), ()) := by
  have main : ∀ n k out, ns.length - k ≤ n → k ≤ ns.length → out.length + 4 * (ns.length - k) ≤ 1000000000000 →
      TendsL M_conciergeref04_Fold_l0 (out, ns.map fun c : Nat => (c : Int), (k : Int), ()) (out ++ (ns.drop k).flatMap (fun c : Nat => enc8 (foldI (c : Int))), ()) := by
    intro n
    induction n with
    | zero =>
      intro k out hn hk ho
      have : k = ns.length := by omega
      subst this
      refine TendsL.fin (Tends.of fun F => ?_)
      unfold M_conciergeref04_Fold_l0
      simp
    | succ n ih =>
      intro k out hn' hk ho
      by_cases hlt : k < ns.length
      · have hm : (ns.map fun c : Nat => (c : Int))[k]? = some ((ns[k] : Nat) : Int) := by simp [hlt]
        refine TendsL.step (x' := (out ++ enc8 (foldI ((ns[k] : Nat) : Int)), ns.map fun c : Nat => (c : Int), ((k + 1 : Nat) : Int), ())) (Tends.of fun F => ?_) ?_
        · exact refFold_step F out _ k ns[k] (hns _ (List.getElem_mem _)) hm (by omega) (by simp; omega)
        · have hl := enc8_len (foldI ((ns[k] : Nat) : Int))
          have := ih (k + 1) (out ++ enc8 (foldI ((ns[k] : Nat) : Int))) (by omega) hlt (by rw [List.length_append]; omega)
          rw [List.drop_eq_getElem_cons hlt, List.flatMap_cons, ← List.append_assoc]
          exact this
      · have : k = ns.length := by omega
        subst this
        refine TendsL.fin (Tends.of fun F => ?_)
        unfold M_conciergeref04_Fold_l0
        simp
  exact main _ k out (Nat.le_refl _) hk ho

/-- The codes of a text's signs. -/
theorem signs_nat (l : List UInt8) : ∃ ns : List Nat, (∀ c ∈ ns, okR c) ∧ (signs l).map (·.1) = ns.map fun c : Nat => (c : Int) := by
  induction l using signs_ind with
  | h0 => exact ⟨[], by simp, by rw [signs_nil]; rfl⟩
  | h1 l hn ih =>
    obtain ⟨ns, h1, h2⟩ := ih
    refine ⟨(decodeL l).1 :: ns, ?_, ?_⟩
    · intro c hc
      rcases List.mem_cons.1 hc with rfl | hc
      · exact rune_ok l
      · exact h1 c hc
    · rw [signs_cons hn, List.map_cons, List.map_cons, h2]

theorem foldL_map (l : List (Int × List UInt8)) : foldL l = (l.map (·.1)).flatMap fun n => enc8 (foldI n) := by
  unfold foldL; rw [List.flatMap_map]

theorem refFold_tends (s : List UInt8) (hs : s.length ≤ 100000000000) : Tends (fun F => M_conciergeref04_Fold F s) (foldL (signs s)) := by
  unfold M_conciergeref04_Fold
  obtain ⟨ns, h1, h2⟩ := signs_nat s
  have hl := signs_len s
  have hl' : ns.length = (signs s).length := by have := congrArg List.length h2; simpa using this.symm
  refine (signs_tends s (by omega)).bind ?_
  simp only
  rw [h2]
  have := refFoldLoop ns h1 (by omega) 0 (by omega) [] (by simp; omega)
  refine Tends.eq (r := [] ++ (ns.drop 0).flatMap (fun c : Nat => enc8 (foldI (c : Int)))) (this.run.bind (k := fun F (v8 : List UInt8 × Unit) => some v8.1) (Tends.of fun F => rfl)) ?_
  rw [foldL_map, h2, List.flatMap_map]
  simp

end Go.Vm
