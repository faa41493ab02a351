/- Proofs of membership, plainly: checks. No condition. -/
import Derived.Test.YtmbnnjpdpginlaaGreatDoorPp2
namespace Go.Vm
set_option linter.unusedVariables false
open Go

theorem turns_loop : ∀ (m n i : Nat) (out : List Bool), n ≤ 2 ^ m → m ≤ 32 → out.length + m ≤ 1000 → i < 4294967296 → TendsL M_proof_turns_l0 ((n : Int), (i : Int), (), out, ()) ((), out ++ turnsD n i, ())
  | m, n, i, out, hm, h32, ho, hi0 => by
    have hp : 2 ^ m ≤ 2 ^ 32 := Nat.pow_le_pow_right (by omega) h32
    by_cases h2 : n < 2
    · refine TendsL.fin (.of fun F => ?_)
      unfold M_proof_turns_l0
      refine (if_neg (show ¬ (decide ((1 : Int) < (n : Int)) = true) by simp; omega)).trans ?_
      rw [turnsD_small h2]
      simp
    · have hlt := hf_lt (n := n) (by omega)
      have hpos := hf_pos n
      match m with
      | 0 => simp at hm; omega
      | m + 1 =>
        have hh : hf n ≤ 2 ^ m := by
          unfold hf
          refine Nat.pow_le_pow_right (by omega) ?_
          have : Nat.log2 (n - 1) < m + 1 := (Nat.log2_lt (by omega)).2 (by omega)
          omega
        have hhalf : ∀ F, M_proof_half F (n : Int) = some ((hf n : Nat) : Int) := fun F => half_eq F n (by omega) (by omega)
        by_cases hc : i < hf n
        · have hd : decide (((hf n : Nat) : Int) ≤ (i : Int)) = false := by simp; omega
          have ih := turns_loop m (hf n) i (out ++ [false]) hh (by omega) (by simp; omega) hi0
          rw [turnsD_left (by omega) hc]
          refine TendsL.step (x' := (((hf n : Nat) : Int), (i : Int), (), out ++ [false], ())) ?_ (by simpa using ih)
          unfold M_proof_turns_l0
          refine Tends.pos (show decide ((1 : Int) < (n : Int)) = true by simp; omega) ?_
          refine Tends.bind (.of hhalf) ?_
          refine Tends.of fun F => ?_
          simp only [hd]
          rw [if_pos (by simp; omega)]
          rfl
        · have hd : decide (((hf n : Nat) : Int) ≤ (i : Int)) = true := by simp; omega
          have e1 : IntKind.i64.wrap ((n : Int) - ((hf n : Nat) : Int)) = ((n - hf n : Nat) : Int) := by rw [wrap64] <;> omega
          have e2 : IntKind.i64.wrap ((i : Int) - ((hf n : Nat) : Int)) = ((i - hf n : Nat) : Int) := by rw [wrap64] <;> omega
          have := hf_half (n := n) (by omega)
          have ih := turns_loop m (n - hf n) (i - hf n) (out ++ [true]) (by omega) (by omega) (by simp; omega) (by omega)
          rw [turnsD_right (by omega) hc]
          refine TendsL.step (x' := (((n - hf n : Nat) : Int), ((i - hf n : Nat) : Int), (), out ++ [true], ())) ?_ (by simpa using ih)
          unfold M_proof_turns_l0
          refine Tends.pos (show decide ((1 : Int) < (n : Int)) = true by simp; omega) ?_
          refine Tends.bind (.of hhalf) ?_
          refine Tends.of fun F => ?_
          simp only [hd, e1, e2]
          rw [if_pos (by simp; omega)]
          rfl
theorem turns_tends (n i : Nat) (hn : n ≤ 1048576) (hi : i < 4294967296) : Tends (fun F => M_proof_turns F ((n : Int), (i : Int))) (turnsD n i) := by
  unfold M_proof_turns
  have h := turns_loop 20 n i [] (by simpa using hn) (by omega) (by simp) hi
  rw [List.nil_append] at h
  exact Tends.bind h.run (.ret _)

def Sp (l : List (List UInt8)) : Prop := ∀ x ∈ l, x.length ≤ 10000
def upR (root : List UInt8) (n : Int) (r : Option (List UInt8)) : (List UInt8 × Int × List UInt8 × Unit) ⊕ (Bool × Unit) := match r with
  | some x => .inl (root, n, x, ())
  | none => .inr (false, ())

theorem check_loop (root : List UInt8) (n : Int) (way : List Bool) (path : List (List UInt8)) (hl : path.length = way.length) (hs : path.length ≤ 1000) (hp : Sp path) : ∀ (m k : Nat) (d : List UInt8), k + m = path.length → d.length ≤ 10000 →
    TendsL M_proof_Check_l0 (root, n, way, d, path, (path.length : Int), (k : Int), ()) (upR root n (up (way.reverse.drop k) (path.drop k) d))
  | 0, k, d, h, hd => by
    refine TendsL.fin (.of fun F => ?_)
    unfold M_proof_Check_l0
    refine (if_neg (by simp; omega)).trans ?_
    rw [List.drop_eq_nil_of_le (by simp; omega), List.drop_eq_nil_of_le (by omega)]
    rfl
  | m + 1, k, d, h, hd => by
    have hk : k < path.length := by omega
    have hw : k < way.reverse.length := by simp; omega
    have e1 : IntKind.i64.wrap ((way.length : Int) - 1) = ((way.length - 1 : Nat) : Int) := by rw [wrap64] <;> omega
    have e2 : IntKind.i64.wrap (((way.length - 1 : Nat) : Int) - (k : Int)) = ((way.length - 1 - k : Nat) : Int) := by rw [wrap64] <;> omega
    have hx := idxN path k (k : Int) rfl hk
    have hv := idxN way (way.length - 1 - k) ((way.length - 1 - k : Nat) : Int) rfl (by omega)
    have hrev : way.reverse[k] = way[way.length - 1 - k]'(by omega) := by simp
    have hpl := hp path[k] (List.getElem_mem hk)
    rw [List.drop_eq_getElem_cons hw, List.drop_eq_getElem_cons hk]
    simp only [up]
    by_cases h32 : path[k].length = 32
    · rw [if_pos h32]
      have ih := check_loop root n way path hl hs hp m (k + 1) (if way.reverse[k] then knotD path[k] d else knotD d path[k]) (by omega) (by split <;> simp [knotD, dig_len])
      refine TendsL.step ?_ ih
      unfold M_proof_Check_l0
      refine Tends.pos (by simp; omega) ?_
      refine Tends.bind (r := .inl (root, n, way, (if way.reverse[k] then knotD path[k] d else knotD d path[k]), path, (path.length : Int), (k : Int), ())) ?_ ?_
      · refine Tends.bind (.const hx) ?_
        refine Tends.neg (by simp; omega) ?_
        refine Tends.bind (m := fun F => idx way (IntKind.i64.wrap (IntKind.i64.wrap ((way.length : Int) - 1) - (k : Int)))) (.const (by rw [e1, e2]; exact hv)) ?_
        rw [hrev]
        cases hb : way[way.length - 1 - k]'(by omega)
        · refine Tends.neg (by simp) ?_
          exact Tends.bind (knot_tends d path[k] (by omega) (by omega)) (.ret _)
        · refine Tends.pos rfl ?_
          exact Tends.bind (knot_tends path[k] d (by omega) (by omega)) (.ret _)
      · refine Tends.of fun F => ?_
        simp only [sumC]
        rw [next_nat k (by omega)]
    · rw [if_neg h32]
      refine TendsL.fin ?_
      unfold M_proof_Check_l0
      refine Tends.pos (by simp; omega) ?_
      refine Tends.bind (r := .inr (false, ())) ?_ (.of fun F => rfl)
      refine Tends.bind (.const hx) ?_
      exact Tends.pos (by simp; omega) (.ret _)

/-- What both checks come to. -/
def chkI (root : List UInt8) (n i : Int) (text : List UInt8) (path : List (List UInt8)) : Bool :=
  if 1 ≤ n ∧ n ≤ 1048576 ∧ 0 ≤ i ∧ i < n then checkD root n.toNat i.toNat text path else false

theorem checkD_cases (root : List UInt8) (n i : Nat) (text : List UInt8) (path : List (List UInt8)) : checkD root n i text path = if path.length = (turnsD n i).length then (match up (turnsD n i).reverse path (leafD text) with
    | some x => decide (sealD n x = root)
    | none => false) else false := by
  unfold checkD upD
  by_cases h : path.length = (turnsD n i).length
  · rw [if_pos h, if_pos h]
    cases up (turnsD n i).reverse path (leafD text) <;> rfl
  · rw [if_neg h, if_neg h]

theorem check_tends (root : List UInt8) (n i : Int) (text : List UInt8) (path : List (List UInt8)) (ht : text.length ≤ 10000) (hs : path.length ≤ 1000) (hp : Sp path) : Tends (fun F => M_proof_Check F (root, n, i, text, path)) (chkI root n i text path) := by
  unfold M_proof_Check
  by_cases h1 : n < 1
  · have hr : chkI root n i text path = false := by unfold chkI; rw [if_neg (by omega)]
    rw [hr]
    refine Tends.bind (r := (root, n, i, text, path, true, ())) (.of fun F => if_neg (by simpa using h1)) ?_
    refine Tends.bind (r := (root, n, i, text, path, true, ())) (.of fun F => if_neg (by simp)) ?_
    refine Tends.bind (r := (root, n, i, text, path, true, ())) (.of fun F => if_neg (by simp)) ?_
    exact Tends.pos rfl (.ret _)
  by_cases h2 : 1048576 < n
  · have hr : chkI root n i text path = false := by unfold chkI; rw [if_neg (by omega)]
    rw [hr]
    refine Tends.bind (r := (root, n, i, text, path, true, ())) (.of fun F => (if_pos (by simpa using h1)).trans (by rw [decide_eq_true h2])) ?_
    refine Tends.bind (r := (root, n, i, text, path, true, ())) (.of fun F => if_neg (by simp)) ?_
    refine Tends.bind (r := (root, n, i, text, path, true, ())) (.of fun F => if_neg (by simp)) ?_
    exact Tends.pos rfl (.ret _)
  refine Tends.bind (r := (root, n, i, text, path, false, ())) (.of fun F => (if_pos (by simpa using h1)).trans (by rw [decide_eq_false h2])) ?_
  by_cases h3 : i < 0
  · have hr : chkI root n i text path = false := by unfold chkI; rw [if_neg (by omega)]
    rw [hr]
    refine Tends.bind (r := (root, n, i, text, path, true, ())) (.of fun F => (if_pos rfl).trans (by rw [decide_eq_true h3])) ?_
    refine Tends.bind (r := (root, n, i, text, path, true, ())) (.of fun F => if_neg (by simp)) ?_
    exact Tends.pos rfl (.ret _)
  refine Tends.bind (r := (root, n, i, text, path, false, ())) (.of fun F => (if_pos rfl).trans (by rw [decide_eq_false h3])) ?_
  by_cases h4 : n ≤ i
  · have hr : chkI root n i text path = false := by unfold chkI; rw [if_neg (by omega)]
    rw [hr]
    refine Tends.bind (r := (root, n, i, text, path, true, ())) (.of fun F => (if_pos rfl).trans (by rw [decide_eq_true h4])) ?_
    exact Tends.pos rfl (.ret _)
  refine Tends.bind (r := (root, n, i, text, path, false, ())) (.of fun F => (if_pos rfl).trans (by rw [decide_eq_false h4])) ?_
  refine Tends.neg (by simp) ?_
  obtain ⟨N, rfl⟩ : ∃ N : Nat, n = (N : Int) := ⟨n.toNat, by omega⟩
  obtain ⟨I, rfl⟩ : ∃ I : Nat, i = (I : Int) := ⟨i.toNat, by omega⟩
  have hr : chkI root (N : Int) (I : Int) text path = checkD root N I text path := by unfold chkI; rw [if_pos (by omega)]; rfl
  rw [hr, checkD_cases]
  refine Tends.bind (turns_tends N I (by omega) (by omega)) ?_
  have htl := turnsD_len 20 N I (by omega)
  by_cases hl : path.length = (turnsD N I).length
  · rw [if_pos hl]
    refine Tends.neg (by simp; omega) ?_
    refine Tends.bind (leaf_tends text (by omega)) ?_
    have hloop := check_loop root (N : Int) (turnsD N I) path hl hs hp path.length 0 (leafD text) (by omega) (by simp [leafD, dig_len])
    rw [List.drop_zero, List.drop_zero] at hloop
    refine Tends.bind hloop.run ?_
    cases hu : up (turnsD N I).reverse path (leafD text) with
    | none => exact .ret _
    | some x =>
      have hx := up_len hu (by simp [leafD, dig_len])
      exact Tends.bind (seal_tends N x (by omega) (by omega)) (.ret _)
  · rw [if_neg hl]
    exact Tends.pos (by simp; omega) (.ret _)

/-! ### the document's -/

end Go.Vm
