/- Paths: plain. No condition. -/
import Derived.Test.YtihpjgcbmipdbaaGreatDoorPk2
namespace Go.Vm
open Go Go.Proofs
set_option linter.unusedVariables false
/-! ### cut at each stroke -/
def splitL : List UInt8 → List (List UInt8)
 | [] => [[]]
 | c :: s => if c = 47 then [] :: splitL s else match splitL s with
  | p :: ps => (c :: p) :: ps
  | [] => [[c]]
theorem splitL_nil : splitL [] = [[]] := rfl
theorem splitL_s (s : List UInt8) : splitL (47 :: s) = [] :: splitL s := by rw [splitL, if_pos rfl]
theorem splitL_c {c : UInt8} {s : List UInt8} {p : List UInt8} {ps : List (List UInt8)} (h : c ≠ 47) (hs : splitL s = p :: ps) : splitL (c :: s) = (c :: p) :: ps := by rw [splitL, if_neg h, hs]
theorem index47 (l : List UInt8) : Lib.index (47 :: l) [47] = ((0 : Nat) : Int) := by rw [Lib.index]; simp [List.isPrefixOf]
theorem index_ne {b : UInt8} {l : List UInt8} {j : Nat} (h : b ≠ 47) (hj : Lib.index l [47] = (j : Int)) : Lib.index (b :: l) [47] = ((j + 1 : Nat) : Int) := by
 have hp : ([47] : List UInt8).isPrefixOf (b :: l) = false := by simp [List.isPrefixOf, Ne.symm h]
 rw [Lib.index, hp, hj]
 have : ¬ ((j : Int) == -1) = true := fun e => by have := beq_iff_eq.1 e; omega
 simp [this]
theorem split_splitL : ∀ s : List UInt8, Lib.split s [47] = splitL s
 | [] => by simp [Lib.split, Lib.count_miss, Lib.index, Lib.splitK, splitL]
 | b :: l => by
  have ih := split_splitL l
  unfold Lib.split at ih ⊢
  by_cases hb : b = 47
  ·subst hb
   rw [Lib.count_cons_eq, splitL_s, Nat.add_comm, Lib.splitK, index47]
   rw [if_neg (by simp)]
   simpa using ih
  ·rw [Lib.count_cons_ne b 47 l hb]
   by_cases hm : Lib.index l [47] = -1
   ·rw [Lib.count_miss hm] at ih ⊢
    rw [Lib.splitK] at ih ⊢
    exact (splitL_c hb ih.symm).symm
   ·have hge := Lib.index_ge l [47]
    obtain ⟨j, hj⟩ : ∃ j : Nat, Lib.index l [47] = j := ⟨(Lib.index l [47]).toNat, by omega⟩
    have hc := Lib.count_hit (s := l) (sub := [47]) (by simp) hj
    generalize Lib.count (l.drop (j + [47].length)) [47] = k at hc
    rw [hc, Nat.add_comm, Lib.splitK, hj, if_neg (fun e => by have := beq_iff_eq.1 e; omega)] at ih
    rw [hc, Nat.add_comm, Lib.splitK, index_ne hb hj, if_neg (fun e => by have := beq_iff_eq.1 e; omega)]
    rw [splitL_c hb ih.symm]
    simp
def segN : List UInt8 → Nat
 | [] => 0
 | c :: s => if c = 47 then 0 else segN s + 1
theorem splitL_seg : ∀ s : List UInt8, splitL s = s.take (segN s) :: (if segN s < s.length then splitL (s.drop (segN s + 1)) else [])
 | [] => by simp [splitL, segN]
 | c :: s => by
  by_cases h : c = 47
  ·subst h
   rw [splitL_s]
   simp [segN]
  ·have ih := splitL_seg s
   rw [splitL_c h ih]
   have e : segN (c :: s) = segN s + 1 := by rw [segN, if_neg h]
   rw [e]
   simp
theorem splitL_each (n : Nat) : ∀ s : List UInt8, s.length ≤ n → (splitL s).length ≤ s.length + 1 ∧ ∀ p ∈ splitL s, p.length ≤ n
 | [], h => by simp [splitL]
 | c :: s, h => by
  obtain ⟨h1, h2⟩ := splitL_each n s (by simp at h; omega)
  by_cases hc : c = 47
  ·subst hc
   rw [splitL_s]
   exact ⟨by simp <;> omega, fun p hp => by
    rcases List.mem_cons.1 hp with rfl | hp
    ·simp
    ·exact h2 p hp⟩
  ·rw [splitL_seg (c :: s)]
   have h3 := splitL_seg s
   have e : segN (c :: s) = segN s + 1 := by rw [segN, if_neg hc]
   have e2 : (if segN s + 1 < (c :: s).length then splitL ((c :: s).drop (segN s + 1 + 1)) else []) = (if segN s < s.length then splitL (s.drop (segN s + 1)) else []) := by simp
   rw [e, e2]
   rw [h3] at h1 h2
   generalize (if segN s < s.length then splitL (s.drop (segN s + 1)) else []) = r at h1 h2
   simp only [List.length_cons] at h1 h ⊢
   refine ⟨by omega, fun p hp => ?_⟩
   rcases List.mem_cons.1 hp with rfl | hp
   ·rw [List.length_take, List.length_cons]; omega
   ·have := h2 p (List.mem_cons_of_mem _ hp)
    omega
/-! ### the walk along the parts -/
def walkP : List (List UInt8) → List (List UInt8) → Option (List (List UInt8))
 | [], out => some out
 | p :: ps, out => if (readF p).2 = false then none else if (readF p).1 = [] ∨ (readF p).1 = [46] then walkP ps out else
  if (readF p).1 = [46, 46] then (if out = [] then none else walkP ps (out.take (out.length - 1))) else walkP ps (out ++ [(readF p).1])
theorem readF_len (s : List UInt8) : (readF s).1.length ≤ s.length := by
 unfold readF
 cases h : readL s with
 | none => simp
 | some t => exact readL_len _ s t (Nat.le_refl _) h
def Few (n : Nat) (l : List (List UInt8)) : Prop := l.length ≤ n ∧ ∀ q ∈ l, q.length ≤ 1000
theorem Few.take {n : Nat} {l : List (List UInt8)} (h : Few n l) (k : Nat) : Few n (l.take k) := ⟨by have := h.1; simp; omega, fun q hq => h.2 q (List.mem_of_mem_take hq)⟩
theorem Few.add {n : Nat} {l : List (List UInt8)} (h : Few n l) {q : List UInt8} (hq : q.length ≤ 1000) : Few (n + 1) (l ++ [q]) := ⟨by have := h.1; simp; omega, fun x hx => by
 rcases List.mem_append.1 hx with hx | hx
 ·exact h.2 x hx
 ·simp at hx; subst hx; exact hq⟩
theorem Few.mono {n m : Nat} {l : List (List UInt8)} (h : Few n l) (hm : n ≤ m) : Few m l := ⟨Nat.le_trans h.1 hm, h.2⟩
theorem walkP_few : ∀ (ps out l : List (List UInt8)) (n : Nat), Few n out → (∀ p ∈ ps, p.length ≤ 1000) → walkP ps out = some l → Few (n + ps.length) l
 | [], out, l, n, ho, hp, h => by cases h; exact ho
 | p :: ps, out, l, n, ho, hp, h => by
  have hpp := hp p (by simp)
  have hps : ∀ q ∈ ps, q.length ≤ 1000 := fun q hq => hp q (by simp [hq])
  have hq := readF_len p
  rw [walkP] at h
  split at h
  ·cases h
  ·split at h
   ·exact (walkP_few ps out l n ho hps h).mono (by simp)
   ·split at h
    ·split at h
     ·cases h
     ·exact (walkP_few ps _ l n (ho.take _) hps h).mono (by simp)
    ·exact (walkP_few ps _ l (n + 1) (ho.add (by omega)) hps h).mono (by simp <;> omega)
def prR : Option (List (List UInt8)) → (Unit × List (List UInt8) × Unit) ⊕ (Unit × Bool × List (List UInt8) × Unit)
 | none => .inr ((), false, [], ())
 | some l => .inl ((), l, ())
theorem parts_loop (ps : List (List UInt8)) (hn : ps.length ≤ 1000) (hp : ∀ p ∈ ps, p.length ≤ 1000) : ∀ (m k : Nat) (out : List (List UInt8)), k + m = ps.length → out.length + m ≤ 5000 →
  TendsL M_canon_parts_l0 ((), ps, (ps.length : Int), (k : Int), out, ()) (prR (walkP (ps.drop k) out))
 | 0, k, out, h, ho => by
  refine TendsL.fin (.of fun F => ?_)
  unfold M_canon_parts_l0
  refine (if_neg (by simp <;> omega)).trans ?_
  rw [List.drop_eq_nil_of_le (by omega)]
  rfl
 | m + 1, k, out, h, ho => by
  have hk : k < ps.length := by omega
  have hx := idxN ps k (k : Int) rfl hk
  have hpk := hp ps[k] (List.getElem_mem hk)
  have hrd := read_tends ps[k] hpk
  rw [List.drop_eq_getElem_cons hk, walkP]
  generalize hq : readF ps[k] = q at hrd
  obtain ⟨q, ok⟩ := q
  cases ok
  ·rw [if_pos rfl]
   refine TendsL.fin ?_
   unfold M_canon_parts_l0
   refine Tends.pos (by simp <;> omega) ?_
   refine Tends.bind (r := .inr ((), false, [], ())) ?_ (.of fun F => rfl)
   exact Tends.bind (.const hx) (Tends.bind hrd (Tends.pos rfl (.ret _)))
  ·rw [if_neg (by simp)]
   simp only
   by_cases hd : q = [] ∨ q = [46]
   ·rw [if_pos hd]
    refine TendsL.step ?_ (parts_loop ps hn hp m (k + 1) out (by omega) (by omega))
    unfold M_canon_parts_l0
    refine Tends.pos (by simp <;> omega) ?_
    refine Tends.bind (r := .inl ((), ps, (ps.length : Int), (k : Int), out, ())) ?_ (.of fun F => by simp only [sumC]; rw [next_nat k (by omega)])
    refine Tends.bind (.const hx) (Tends.bind hrd (Tends.neg (by simp) ?_))
    refine Tends.bind (r := ((), q, ps, (ps.length : Int), (k : Int), q, true, out, ())) (.of fun F => ?_) (Tends.pos rfl (.ret _))
    by_cases h0 : q = []
    ·subst h0; rfl
    ·have h1 : q = [46] := hd.resolve_left h0
     subst h1; rfl
   ·rw [if_neg hd]
    have h0 : ¬ q = [] := fun h => hd (.inl h)
    have h1 : ¬ q = [46] := fun h => hd (.inr h)
    have hv : (fun _ : Nat => if decide (q = []) = true then some ((), q, ps, (ps.length : Int), (k : Int), q, decide (q = []), out, ()) else some ((), q, ps, (ps.length : Int), (k : Int), q, decide (q = [46]), out, ())) = fun _ => some ((), q, ps, (ps.length : Int), (k : Int), q, false, out, ()) := by
     funext F
     rw [if_neg (by simpa using h0), decide_eq_false h1]
    by_cases h2 : q = [46, 46]
    ·rw [if_pos h2]
     by_cases hz : out = []
     ·rw [if_pos hz]
      refine TendsL.fin ?_
      unfold M_canon_parts_l0
      refine Tends.pos (by simp <;> omega) ?_
      refine Tends.bind (r := .inr ((), false, [], ())) ?_ (.of fun F => rfl)
      refine Tends.bind (.const hx) (Tends.bind hrd (Tends.neg (by simp) ?_))
      refine Tends.bind (r := ((), q, ps, (ps.length : Int), (k : Int), q, false, out, ())) (.of fun F => congrFun hv F) (Tends.neg (by simp) ?_)
      refine Tends.pos (by simpa using h2) (Tends.pos (by simp [hz]) (.ret _))
     ·rw [if_neg hz]
      have hlen : 0 < out.length := List.length_pos_iff.2 hz
      have hw : IntKind.i64.wrap ((out.length : Int) - 1) = ((out.length - 1 : Nat) : Int) := by rw [wrap64] <;> omega
      refine TendsL.step ?_ (parts_loop ps hn hp m (k + 1) (out.take (out.length - 1)) (by omega) (by simp <;> omega))
      unfold M_canon_parts_l0
      refine Tends.pos (by simp <;> omega) ?_
      refine Tends.bind (r := .inl ((), ps, (ps.length : Int), (k : Int), out.take (out.length - 1), ())) ?_ (.of fun F => by simp only [sumC]; rw [next_nat k (by omega)])
      refine Tends.bind (.const hx) (Tends.bind hrd (Tends.neg (by simp) ?_))
      refine Tends.bind (r := ((), q, ps, (ps.length : Int), (k : Int), q, false, out, ())) (.of fun F => congrFun hv F) (Tends.neg (by simp) ?_)
      refine Tends.pos (by simpa using h2) (Tends.neg (by simp [hz]) (.of fun F => ?_))
      simp only [hw]
      rw [if_pos (by simp <;> omega), Int.toNat_natCast]
    ·rw [if_neg h2]
     refine TendsL.step ?_ (parts_loop ps hn hp m (k + 1) (out ++ [q]) (by omega) (by simp <;> omega))
     unfold M_canon_parts_l0
     refine Tends.pos (by simp <;> omega) ?_
     refine Tends.bind (r := .inl ((), ps, (ps.length : Int), (k : Int), out ++ [q], ())) ?_ (.of fun F => by simp only [sumC]; rw [next_nat k (by omega)])
     refine Tends.bind (.const hx) (Tends.bind hrd (Tends.neg (by simp) ?_))
     refine Tends.bind (r := ((), q, ps, (ps.length : Int), (k : Int), q, false, out, ())) (.of fun F => congrFun hv F) (Tends.neg (by simp) ?_)
     exact Tends.neg (by simpa using h2) (Tends.pos (by simp <;> omega) (.ret _))
theorem parts_tends (s : List UInt8) (hs : s.length ≤ 900) : Tends (fun F => M_canon_parts F s) (match walkP (splitL s) [] with
  | none => ([], false)
  | some l => (l, true)) := by
 unfold M_canon_parts
 have hsp : Tends (fun F => M_strings_Split F (s, [47])) (splitL s) := by
  refine .of fun F => ?_
  show MSplit (s, [47]) = _
  unfold MSplit
  rw [if_pos (by simp <;> omega), if_pos (by simp), split_splitL]
 refine Tends.bind hsp ?_
 obtain ⟨h1, h2⟩ := splitL_each 900 s hs
 have hl := parts_loop (splitL s) (by omega) (fun p hp => by have := h2 p hp; omega) _ 0 [] (Nat.zero_add _) (by simp <;> omega)
 rw [List.drop_zero] at hl
 refine Tends.bind hl.run ?_
 cases walkP (splitL s) [] with
 | none => exact .ret _
 | some l => exact .ret _
/-! ### joined again -/
def joinP (l : List (List UInt8)) : List UInt8 := l.flatMap fun q => 47 :: writeL q
theorem join_loop (l : List (List UInt8)) (hn : l.length ≤ 2000) (hq : ∀ q ∈ l, q.length ≤ 1000) : ∀ (m k : Nat) (acc : List UInt8), k + m = l.length → acc.length + 3001 * m ≤ 100000000 →
  TendsL M_canon_Path_l0 (acc, l, (l.length : Int), (k : Int), ()) (acc ++ joinP (l.drop k), ())
 | 0, k, acc, h, ha => by
  refine TendsL.fin (.of fun F => ?_)
  unfold M_canon_Path_l0
  refine (if_neg (by simp <;> omega)).trans ?_
  rw [List.drop_eq_nil_of_le (by omega)]
  simp [joinP]
 | m + 1, k, acc, h, ha => by
  have hk : k < l.length := by omega
  have hx := idxN l k (k : Int) rfl hk
  have hqk := hq l[k] (List.getElem_mem hk)
  have hw := writeL_len l[k]
  rw [List.drop_eq_getElem_cons hk]
  have e : acc ++ joinP (l[k] :: l.drop (k + 1)) = (acc ++ ([47] ++ writeL l[k])) ++ joinP (l.drop (k + 1)) := by unfold joinP; rw [List.flatMap_cons, List.append_assoc]; rfl
  rw [e]
  refine TendsL.step ?_ (join_loop l hn hq m (k + 1) (acc ++ ([47] ++ writeL l[k])) (by omega) (by simp <;> omega))
  unfold M_canon_Path_l0
  refine Tends.pos (by simp <;> omega) (Tends.bind (.const hx) (Tends.bind (cwrite_tends l[k] hqk) (Tends.pos (by simp <;> omega) (Tends.pos (by simp <;> omega) (.of fun F => ?_)))))
  simp only
  rw [next_nat k (by omega)]
def finP (l : List (List UInt8)) : List UInt8 × Bool := if 60 < (if joinP l = [] then [47] else joinP l).length then ([], false) else ((if joinP l = [] then [47] else joinP l), true)
def pathF : List UInt8 → List UInt8 × Bool
 | [] => ([], false)
 | c :: t => if 59 < t.length ∨ c ≠ 47 then ([], false) else match walkP (splitL t) [] with
  | none => ([], false)
  | some l => finP l
theorem pathF_out {c : UInt8} {t : List UInt8} (h : 59 < t.length ∨ c ≠ 47) : pathF (c :: t) = ([], false) := if_pos h
theorem pathF_in {t : List UInt8} (h : ¬ 59 < t.length) : pathF (47 :: t) = match walkP (splitL t) [] with
  | none => ([], false)
  | some l => finP l := if_neg (by simpa using h)
theorem readF_nil : readF [] = ([], true) := by rw [readF_some readL_nil]; rfl
theorem path_tends (s : List UInt8) : Tends (fun F => M_canon_Path F s) (pathF s) := by
 unfold M_canon_Path
 cases s with
 | nil =>
  refine Tends.bind (r := ([], true, ())) (.of fun F => if_neg (by simp)) ?_
  exact Tends.bind (r := ([], true, ())) (.of fun F => if_neg (by simp)) (Tends.pos rfl (.ret _))
 | cons c t =>
 by_cases h60 : 59 < t.length
 ·rw [pathF_out (.inl h60)]
  refine Tends.bind (r := (c :: t, true, ())) (.of fun F => (if_pos (by simp)).trans ?_) ?_
  ·rw [decide_eq_true (by simp <;> omega)]
  exact Tends.bind (r := (c :: t, true, ())) (.of fun F => if_neg (by simp)) (Tends.pos rfl (.ret _))
 refine Tends.bind (r := (c :: t, false, ())) (.of fun F => (if_pos (by simp)).trans ?_) ?_
 ·rw [decide_eq_false (by simp <;> omega)]
 by_cases hc : c = 47
 ·subst hc
  refine Tends.bind (r := (47 :: t, false, ())) (.of fun F => rfl) (Tends.neg (by simp) ?_)
  refine Tends.bind (parts_tends (47 :: t) (by simp <;> omega)) ?_
  have e : walkP (splitL (47 :: t)) [] = walkP (splitL t) [] := by rw [splitL_s, walkP, readF_nil, if_neg (by simp), if_pos (.inl rfl)]
  rw [e, pathF_in h60]
  cases hw : walkP (splitL t) [] with
  | none => exact Tends.pos rfl (.ret _)
  | some l =>
   obtain ⟨h1, h2⟩ := splitL_each 900 t (by omega)
   obtain ⟨f1, f2⟩ := walkP_few _ _ l 0 ⟨by simp, by simp⟩ (fun p hp => by have := h2 p hp; omega) hw
   have hl := join_loop l (by omega) f2 _ 0 [] (Nat.zero_add _) (by simp <;> omega)
   rw [List.drop_zero, List.nil_append] at hl
   refine Tends.neg (by simp) (Tends.bind hl.run ?_)
   show Tends _ (finP l)
   unfold finP
   refine Tends.bind (r := ((if joinP l = [] then [47] else joinP l), ())) (.of fun F => ?_) ?_
   ·by_cases h0 : joinP l = []
    ·rw [if_pos (by simpa using h0), if_pos h0]
    ·rw [if_neg (by simpa using h0), if_neg h0]
   ·by_cases hz : 60 < (if joinP l = [] then [47] else joinP l).length
    ·rw [if_pos hz]
     exact Tends.pos (by simp only [decide_eq_true_eq]; omega) (.ret _)
    ·rw [if_neg hz]
     exact Tends.neg (by simp only [decide_eq_true_eq]; omega) (.ret _)
 ·rw [pathF_out (.inr hc)]
  have hc' : ¬ ((c.toNat : Int) = 47) := fun h => hc (UInt8.toNat_inj.1 (by show c.toNat = 47; omega))
  refine Tends.bind (r := (c :: t, true, ())) (.of fun F => (if_pos rfl).trans ?_) (Tends.pos rfl (.ret _))
  show some (c :: t, !decide ((c.toNat : Int) = 47), ()) = _
  rw [decide_eq_false hc']
  rfl
/-! ### the document's -/
end Go.Vm
