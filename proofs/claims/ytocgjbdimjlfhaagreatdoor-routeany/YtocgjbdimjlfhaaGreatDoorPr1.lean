import Derived.Test.YtocgjbdimjlfhaaGreatDoorPk2
import Derived.Test.YtocgjbdimjlfhaaGreatDoorPg3
/- Paths: plain. No condition. -/
namespace Go.Vm
open Go Go.Proofs
set_option linter.unusedVariables false
/-! ### cut at each stroke -/
def splitL : List UInt8 → List (List UInt8)
  | [] => [[]]
  | c :: s => if c = 47 then [] :: splitL s else match splitL s with
    | p :: ps => (c :: p) :: ps
    | [] => [[c]]
theorem splitL_s (s : List UInt8) : splitL (47 :: s) = [] :: splitL s := by rw [splitL, if_pos rfl]
theorem splitL_c {c : UInt8} {s : List UInt8} {p : List UInt8} {ps : List (List UInt8)} (h : c ≠ 47) (hs : splitL s = p :: ps) : splitL (c :: s) = (c :: p) :: ps := by rw [splitL, if_neg h, hs]
theorem index47 (l : List UInt8) : Lib.index (47 :: l) [47] = ((0 : Nat) : Int) := by rw [Lib.index]; simp [List.isPrefixOf]
theorem index_ne {b : UInt8} {l : List UInt8} {j : Nat} (h : b ≠ 47) (hj : Lib.index l [47] = (j : Int)) : Lib.index (b :: l) [47] = ((j + 1 : Nat) : Int) := by
  have hp : ([47] : List UInt8).isPrefixOf (b :: l) = false := by simp [List.isPrefixOf, Ne.symm h]
  rw [Lib.index, hp, hj]
  have : ¬ ((j : Int) == -1) = true := fun e => by have := beq_iff_eq.1 e; omega
  simp [this]
theorem split_splitL : ∀ s : List UInt8, Lib.split s [47] = splitL s
  | [] => by simp [Lib.split, Lib.count_miss, Lib.index, Lib.splitK, splitL]
  | b :: l => by
    have ih := split_splitL l
    unfold Lib.split at ih ⊢
    by_cases hb : b = 47
    · subst hb
      rw [Lib.count_cons_eq, splitL_s, Nat.add_comm, Lib.splitK, index47]
      rw [if_neg (by simp)]
      simpa using ih
    · rw [Lib.count_cons_ne b 47 l hb]
      by_cases hm : Lib.index l [47] = -1
      · rw [Lib.count_miss hm] at ih ⊢
        rw [Lib.splitK] at ih ⊢
        exact (splitL_c hb ih.symm).symm
      · have hge := Lib.index_ge l [47]
        obtain ⟨j, hj⟩ : ∃ j : Nat, Lib.index l [47] = j := ⟨(Lib.index l [47]).toNat, by omega⟩
        have hc := Lib.count_hit (s := l) (sub := [47]) (by simp) hj
        generalize Lib.count (l.drop (j + [47].length)) [47] = k at hc
        rw [hc, Nat.add_comm, Lib.splitK, hj, if_neg (fun e => by have := beq_iff_eq.1 e; omega)] at ih
        rw [hc, Nat.add_comm, Lib.splitK, index_ne hb hj, if_neg (fun e => by have := beq_iff_eq.1 e; omega)]
        rw [splitL_c hb ih.symm]
        simp
def segN : List UInt8 → Nat
  | [] => 0
  | c :: s => if c = 47 then 0 else segN s + 1
theorem segN_le : ∀ s : List UInt8, segN s ≤ s.length
  | [] => by simp [segN]
  | c :: s => by
    rw [segN]
    have := segN_le s
    split <;> simp <;> omega
theorem splitL_seg : ∀ s : List UInt8, splitL s = s.take (segN s) :: (if segN s < s.length then splitL (s.drop (segN s + 1)) else [])
  | [] => by simp [splitL, segN]
  | c :: s => by
    by_cases h : c = 47
    · subst h
      rw [splitL_s]
      simp [segN]
    · have ih := splitL_seg s
      rw [splitL_c h ih]
      have e : segN (c :: s) = segN s + 1 := by rw [segN, if_neg h]
      rw [e]
      simp
theorem splitL_each (n : Nat) : ∀ s : List UInt8, s.length ≤ n → (splitL s).length ≤ s.length + 1 ∧ ∀ p ∈ splitL s, p.length ≤ n
  | [], h => by simp [splitL]
  | c :: s, h => by
    obtain ⟨h1, h2⟩ := splitL_each n s (by simp at h; omega)
    by_cases hc : c = 47
    · subst hc
      rw [splitL_s]
      exact ⟨by simp <;> omega, fun p hp => by
        rcases List.mem_cons.1 hp with rfl | hp
        · simp
        · exact h2 p hp⟩
    · rw [splitL_seg (c :: s)]
      have h3 := splitL_seg s
      have e : segN (c :: s) = segN s + 1 := by rw [segN, if_neg hc]
      have e2 : (if segN s + 1 < (c :: s).length then splitL ((c :: s).drop (segN s + 1 + 1)) else []) = (if segN s < s.length then splitL (s.drop (segN s + 1)) else []) := by simp
      rw [e, e2]
      rw [h3] at h1 h2
      generalize (if segN s < s.length then splitL (s.drop (segN s + 1)) else []) = r at h1 h2
      simp only [List.length_cons] at h1 h ⊢
      refine ⟨by omega, fun p hp => ?_⟩
      rcases List.mem_cons.1 hp with rfl | hp
      · rw [List.length_take, List.length_cons]; omega
      · have := h2 p (List.mem_cons_of_mem _ hp)
        omega
/-! ### the walk along the parts -/
def walkP : List (List UInt8) → List (List UInt8) → Option (List (List UInt8))
  | [], out => some out
  | p :: ps, out => if (readF p).2 = false then none else if (readF p).1 = [] ∨ (readF p).1 = [46] then walkP ps out else
    if (readF p).1 = [46, 46] then (if out = [] then none else walkP ps (out.take (out.length - 1))) else walkP ps (out ++ [(readF p).1])
theorem readF_len (s : List UInt8) : (readF s).1.length ≤ s.length := by
  unfold readF
  cases h : readL s with
  | none => simp
  | some t => exact readL_len _ s t (Nat.le_refl _) h
def Few (n : Nat) (l : List (List UInt8)) : Prop := l.length ≤ n ∧ ∀ q ∈ l, q.length ≤ 1000
theorem Few.take {n : Nat} {l : List (List UInt8)} (h : Few n l) (k : Nat) : Few n (l.take k) := ⟨by have := h.1; simp; omega, fun q hq => h.2 q (List.mem_of_mem_take hq)⟩
theorem Few.add {n : Nat} {l : List (List UInt8)} (h : Few n l) {q : List UInt8} (hq : q.length ≤ 1000) : Few (n + 1) (l ++ [q]) := ⟨by have := h.1; simp; omega, fun x hx => by
  rcases List.mem_append.1 hx with hx | hx
  · exact h.2 x hx
  · simp at hx; subst hx; exact hq⟩
theorem Few.mono {n m : Nat} {l : List (List UInt8)} (h : Few n l) (hm : n ≤ m) : Few m l := ⟨Nat.le_trans h.1 hm, h.2⟩
theorem walkP_few : ∀ (ps out l : List (List UInt8)) (n : Nat), Few n out → (∀ p ∈ ps, p.length ≤ 1000) → walkP ps out = some l → Few (n + ps.length) l
  | [], out, l, n, ho, hp, h => by cases h; exact ho
  | p :: ps, out, l, n, ho, hp, h => by
    have hpp := hp p (by simp)
    have hps : ∀ q ∈ ps, q.length ≤ 1000 := fun q hq => hp q (by simp [hq])
    have hq := readF_len p
    rw [walkP] at h
    split at h
    · cases h
    · split at h
      · exact (walkP_few ps out l n ho hps h).mono (by simp)
      · split at h
        · split at h
          · cases h
          · exact (walkP_few ps _ l n (ho.take _) hps h).mono (by simp)
        · exact (walkP_few ps _ l (n + 1) (ho.add (by omega)) hps h).mono (by simp <;> omega)
def prR : Option (List (List UInt8)) → (Unit × List (List UInt8) × Unit) ⊕ (Unit × Bool × List (List UInt8) × Unit)
  | none => .inr ((), false, [], ())
  | some l => .inl ((), l, ())
theorem parts_loop (ps : List (List UInt8)) (hn : ps.length ≤ 1000) (hp : ∀ p ∈ ps, p.length ≤ 1000) : ∀ (m k : Nat) (out : List (List UInt8)), k + m = ps.length → out.length + m ≤ 5000 →
    TendsL M_canon_parts_l0 ((), ps, (ps.length : Int), (k : Int), out, ()) (prR (walkP (ps.drop k) out))
  | 0, k, out, h, ho => by
    refine TendsL.fin (.of fun F => ?_)
    unfold M_canon_parts_l0
    refine (if_neg (by simp <;> omega)).trans ?_
    rw [List.drop_eq_nil_of_le (by omega)]
    rfl
  | m + 1, k, out, h, ho => by
    have hk : k < ps.length := by omega
    have hx := idxN ps k (k : Int) rfl hk
    have hpk := hp ps[k] (List.getElem_mem hk)
    have hrd := read_tends ps[k] hpk
    rw [List.drop_eq_getElem_cons hk, walkP]
    generalize hq : readF ps[k] = q at hrd
    obtain ⟨q, ok⟩ := q
    cases ok
    · rw [if_pos rfl]
      refine TendsL.fin ?_
      unfold M_canon_parts_l0
      refine Tends.pos (by simp <;> omega) ?_
      refine Tends.bind (r := .inr ((), false, [], ())) ?_ (.of fun F => rfl)
      exact Tends.bind (.const hx) (Tends.bind hrd (Tends.pos rfl (.ret _)))
    · rw [if_neg (by simp)]
      simp only
      by_cases hd : q = [] ∨ q = [46]
      · rw [if_pos hd]
        refine TendsL.step ?_ (parts_loop ps hn hp m (k + 1) out (by omega) (by omega))
        unfold M_canon_parts_l0
        refine Tends.pos (by simp <;> omega) ?_
        refine Tends.bind (r := .inl ((), ps, (ps.length : Int), (k : Int), out, ())) ?_ (.of fun F => by simp only [sumC]; rw [next_nat k (by omega)])
        refine Tends.bind (.const hx) (Tends.bind hrd (Tends.neg (by simp) ?_))
        refine Tends.bind (r := ((), q, ps, (ps.length : Int), (k : Int), q, true, out, ())) (.of fun F => ?_) (Tends.pos rfl (.ret _))
        by_cases h0 : q = []
        · subst h0; rfl
        · have h1 : q = [46] := hd.resolve_left h0
          subst h1; rfl
      · rw [if_neg hd]
        have h0 : ¬ q = [] := fun h => hd (.inl h)
        have h1 : ¬ q = [46] := fun h => hd (.inr h)
        have hv : (fun _ : Nat => if decide (q = []) = true then some ((), q, ps, (ps.length : Int), (k : Int), q, decide (q = []), out, ()) else some ((), q, ps, (ps.length : Int), (k : Int), q, decide (q = [46]), out, ())) = fun _ => some ((), q, ps, (ps.length : Int), (k : Int), q, false, out, ()) := by
          funext F
          rw [if_neg (by simpa using h0), decide_eq_false h1]
        by_cases h2 : q = [46, 46]
        · rw [if_pos h2]
          by_cases hz : out = []
          · rw [if_pos hz]
            refine TendsL.fin ?_
            unfold M_canon_parts_l0
            refine Tends.pos (by simp <;> omega) ?_
            refine Tends.bind (r := .inr ((), false, [], ())) ?_ (.of fun F => rfl)
            refine Tends.bind (.const hx) (Tends.bind hrd (Tends.neg (by simp) ?_))
            refine Tends.bind (r := ((), q, ps, (ps.length : Int), (k : Int), q, false, out, ())) (.of fun F => congrFun hv F) (Tends.neg (by simp) ?_)
            refine Tends.pos (by simpa using h2) (Tends.pos (by simp [hz]) (.ret _))
          · rw [if_neg hz]
            have hlen : 0 < out.length := List.length_pos_iff.2 hz
            have hw : IntKind.i64.wrap ((out.length : Int) - 1) = ((out.length - 1 : Nat) : Int) := by rw [wrap64] <;> omega
            refine TendsL.step ?_ (parts_loop ps hn hp m (k + 1) (out.take (out.length - 1)) (by omega) (by simp <;> omega))
            unfold M_canon_parts_l0
            refine Tends.pos (by simp <;> omega) ?_
            refine Tends.bind (r := .inl ((), ps, (ps.length : Int), (k : Int), out.take (out.length - 1), ())) ?_ (.of fun F => by simp only [sumC]; rw [next_nat k (by omega)])
            refine Tends.bind (.const hx) (Tends.bind hrd (Tends.neg (by simp) ?_))
            refine Tends.bind (r := ((), q, ps, (ps.length : Int), (k : Int), q, false, out, ())) (.of fun F => congrFun hv F) (Tends.neg (by simp) ?_)
            refine Tends.pos (by simpa using h2) (Tends.neg (by simp [hz]) (.of fun F => ?_))
            simp only [hw]
            rw [if_pos (by simp <;> omega), Int.toNat_natCast]
        · rw [if_neg h2]
          refine TendsL.step ?_ (parts_loop ps hn hp m (k + 1) (out ++ [q]) (by omega) (by simp <;> omega))
          unfold M_canon_parts_l0
          refine Tends.pos (by simp <;> omega) ?_
          refine Tends.bind (r := .inl ((), ps, (ps.length : Int), (k : Int), out ++ [q], ())) ?_ (.of fun F => by simp only [sumC]; rw [next_nat k (by omega)])
          refine Tends.bind (.const hx) (Tends.bind hrd (Tends.neg (by simp) ?_))
          refine Tends.bind (r := ((), q, ps, (ps.length : Int), (k : Int), q, false, out, ())) (.of fun F => congrFun hv F) (Tends.neg (by simp) ?_)
          exact Tends.neg (by simpa using h2) (Tends.pos (by simp <;> omega) (.ret _))
theorem parts_tends (s : List UInt8) (hs : s.length ≤ 900) : Tends (fun F => M_canon_parts F s) (match walkP (splitL s) [] with
    | none => ([], false)
    | some l => (l, true)) := by
  unfold M_canon_parts
  have hsp : Tends (fun F => M_strings_Split F (s, [47])) (splitL s) := by
    refine .of fun F => ?_
    show MSplit (s, [47]) = _
    unfold MSplit
    rw [if_pos (by simp <;> omega), if_pos (by simp), split_splitL]
  refine Tends.bind hsp ?_
  obtain ⟨h1, h2⟩ := splitL_each 900 s hs
  have hl := parts_loop (splitL s) (by omega) (fun p hp => by have := h2 p hp; omega) _ 0 [] (Nat.zero_add _) (by simp <;> omega)
  rw [List.drop_zero] at hl
  refine Tends.bind hl.run ?_
  cases walkP (splitL s) [] with
  | none => exact .ret _
  | some l => exact .ret _
/-! ### joined again -/
def joinP (l : List (List UInt8)) : List UInt8 := l.flatMap fun q => 47 :: writeL q
theorem join_loop (l : List (List UInt8)) (hn : l.length ≤ 2000) (hq : ∀ q ∈ l, q.length ≤ 1000) : ∀ (m k : Nat) (acc : List UInt8), k + m = l.length → acc.length + 3001 * m ≤ 100000000 →
    TendsL M_canon_Path_l0 (acc, l, (l.length : Int), (k : Int), ()) (acc ++ joinP (l.drop k), ())
  | 0, k, acc, h, ha => by
    refine TendsL.fin (.of fun F => ?_)
    unfold M_canon_Path_l0
    refine (if_neg (by simp <;> omega)).trans ?_
    rw [List.drop_eq_nil_of_le (by omega)]
    simp [joinP]
  | m + 1, k, acc, h, ha => by
    have hk : k < l.length := by omega
    have hx := idxN l k (k : Int) rfl hk
    have hqk := hq l[k] (List.getElem_mem hk)
    have hw := writeL_len l[k]
    rw [List.drop_eq_getElem_cons hk]
    have e : acc ++ joinP (l[k] :: l.drop (k + 1)) = (acc ++ ([47] ++ writeL l[k])) ++ joinP (l.drop (k + 1)) := by unfold joinP; rw [List.flatMap_cons, List.append_assoc]; rfl
    rw [e]
    refine TendsL.step ?_ (join_loop l hn hq m (k + 1) (acc ++ ([47] ++ writeL l[k])) (by omega) (by simp <;> omega))
    unfold M_canon_Path_l0
    refine Tends.pos (by simp <;> omega) (Tends.bind (.const hx) (Tends.bind (cwrite_tends l[k] hqk) (Tends.pos (by simp <;> omega) (Tends.pos (by simp <;> omega) (.of fun F => ?_)))))
    simp only
    rw [next_nat k (by omega)]
theorem rjoin_loop (l : List (List UInt8)) (hn : l.length ≤ 2000) (hq : ∀ q ∈ l, q.length ≤ 1000) : ∀ (m k : Nat) (acc : List UInt8), k + m = l.length → acc.length + 3001 * m ≤ 100000000 →
    TendsL M_conciergeref05_Path_l2 ((), acc, (k : Int), l, ()) (acc ++ joinP (l.drop k), ())
  | 0, k, acc, h, ha => by
    refine TendsL.fin (.of fun F => ?_)
    unfold M_conciergeref05_Path_l2
    refine (if_neg (by simp <;> omega)).trans ?_
    rw [List.drop_eq_nil_of_le (by omega)]
    simp [joinP]
  | m + 1, k, acc, h, ha => by
    have hk : k < l.length := by omega
    have hx := idxN l k (k : Int) rfl hk
    have hqk := hq l[k] (List.getElem_mem hk)
    have hw := writeL_len l[k]
    rw [List.drop_eq_getElem_cons hk]
    have e : acc ++ joinP (l[k] :: l.drop (k + 1)) = (acc ++ [47] ++ writeL l[k]) ++ joinP (l.drop (k + 1)) := by unfold joinP; rw [List.flatMap_cons]; simp
    rw [e]
    refine TendsL.step ?_ (rjoin_loop l hn hq m (k + 1) (acc ++ [47] ++ writeL l[k]) (by omega) (by simp <;> omega))
    unfold M_conciergeref05_Path_l2
    refine Tends.pos (by simp <;> omega) (Tends.pos (by simp <;> omega) (Tends.bind (.const hx) (Tends.bind (rwrite_tends l[k] hqk) (Tends.pos (by simp <;> omega) (.of fun F => ?_)))))
    simp only
    rw [next_nat k (by omega)]
def finP (l : List (List UInt8)) : List UInt8 × Bool := if 60 < (if joinP l = [] then [47] else joinP l).length then ([], false) else ((if joinP l = [] then [47] else joinP l), true)
def pathF : List UInt8 → List UInt8 × Bool
  | [] => ([], false)
  | c :: t => if 59 < t.length ∨ c ≠ 47 then ([], false) else match walkP (splitL t) [] with
    | none => ([], false)
    | some l => finP l
theorem pathF_out {c : UInt8} {t : List UInt8} (h : 59 < t.length ∨ c ≠ 47) : pathF (c :: t) = ([], false) := if_pos h
theorem pathF_in {t : List UInt8} (h : ¬ 59 < t.length) : pathF (47 :: t) = match walkP (splitL t) [] with
    | none => ([], false)
    | some l => finP l := if_neg (by simpa using h)
theorem readF_nil : readF [] = ([], true) := by rw [readF_some readL_nil]; rfl
theorem path_tends (s : List UInt8) : Tends (fun F => M_canon_Path F s) (pathF s) := by
  unfold M_canon_Path
  cases s with
  | nil =>
    refine Tends.bind (r := ([], true, ())) (.of fun F => if_neg (by simp)) ?_
    exact Tends.bind (r := ([], true, ())) (.of fun F => if_neg (by simp)) (Tends.pos rfl (.ret _))
  | cons c t =>
  by_cases h60 : 59 < t.length
  · rw [pathF_out (.inl h60)]
    refine Tends.bind (r := (c :: t, true, ())) (.of fun F => (if_pos (by simp)).trans ?_) ?_
    · rw [decide_eq_true (by simp <;> omega)]
    exact Tends.bind (r := (c :: t, true, ())) (.of fun F => if_neg (by simp)) (Tends.pos rfl (.ret _))
  refine Tends.bind (r := (c :: t, false, ())) (.of fun F => (if_pos (by simp)).trans ?_) ?_
  · rw [decide_eq_false (by simp <;> omega)]
  by_cases hc : c = 47
  · subst hc
    refine Tends.bind (r := (47 :: t, false, ())) (.of fun F => rfl) (Tends.neg (by simp) ?_)
    refine Tends.bind (parts_tends (47 :: t) (by simp <;> omega)) ?_
    have e : walkP (splitL (47 :: t)) [] = walkP (splitL t) [] := by rw [splitL_s, walkP, readF_nil, if_neg (by simp), if_pos (.inl rfl)]
    rw [e, pathF_in h60]
    cases hw : walkP (splitL t) [] with
    | none => exact Tends.pos rfl (.ret _)
    | some l =>
      obtain ⟨h1, h2⟩ := splitL_each 900 t (by omega)
      obtain ⟨f1, f2⟩ := walkP_few _ _ l 0 ⟨by simp, by simp⟩ (fun p hp => by have := h2 p hp; omega) hw
      have hl := join_loop l (by omega) f2 _ 0 [] (Nat.zero_add _) (by simp <;> omega)
      rw [List.drop_zero, List.nil_append] at hl
      refine Tends.neg (by simp) (Tends.bind hl.run ?_)
      show Tends _ (finP l)
      unfold finP
      refine Tends.bind (r := ((if joinP l = [] then [47] else joinP l), ())) (.of fun F => ?_) ?_
      · by_cases h0 : joinP l = []
        · rw [if_pos (by simpa using h0), if_pos h0]
        · rw [if_neg (by simpa using h0), if_neg h0]
      · by_cases hz : 60 < (if joinP l = [] then [47] else joinP l).length
        · rw [if_pos hz]
          exact Tends.pos (by simp only [decide_eq_true_eq]; omega) (.ret _)
        · rw [if_neg hz]
          exact Tends.neg (by simp only [decide_eq_true_eq]; omega) (.ret _)
  · rw [pathF_out (.inr hc)]
    have hc' : ¬ ((c.toNat : Int) = 47) := fun h => hc (UInt8.toNat_inj.1 (by show c.toNat = 47; omega))
    refine Tends.bind (r := (c :: t, true, ())) (.of fun F => (if_pos rfl).trans ?_) (Tends.pos rfl (.ret _))
    show some (c :: t, !decide ((c.toNat : Int) = 47), ()) = _
    rw [decide_eq_false hc']
    rfl
/-! ### the document's -/
theorem seg_loop (s : List UInt8) (hs : s.length ≤ 1000) (at' : Int) (out : List (List UInt8)) : ∀ (m e : Nat), s.length - e ≤ m → e ≤ s.length →
    TendsL M_conciergeref05_Path_l0 (s, (), at', (e : Int), out, ()) (s, (), at', ((e + segN (s.drop e) : Nat) : Int), out, ())
  | m, e, hm, he => by
    by_cases hlt : e < s.length
    · have hx := idxN s e (e : Int) rfl hlt
      rw [List.drop_eq_getElem_cons hlt, segN]
      by_cases hc : s[e] = 47
      · rw [if_pos hc, Nat.add_zero]
        refine TendsL.fin (.of fun F => ?_)
        unfold M_conciergeref05_Path_l0
        refine bindE (a := (s, (), at', (e : Int), false, out, ())) ?_ (if_neg (by simp))
        rw [if_pos (by simp <;> omega), hx, Option.bind_some, hc]
        rfl
      · cases m with
        | zero => omega
        | succ m =>
        rw [if_neg hc]
        have ih := seg_loop s hs at' out m (e + 1) (by omega) (by omega)
        rw [show e + (segN (s.drop (e + 1)) + 1) = e + 1 + segN (s.drop (e + 1)) by omega]
        refine TendsL.step (.of fun F => ?_) ih
        have hc' : ¬ ((s[e].toNat : Int) = 47) := fun h => hc (UInt8.toNat_inj.1 (by show s[e].toNat = 47; omega))
        unfold M_conciergeref05_Path_l0
        refine bindE (a := (s, (), at', (e : Int), true, out, ())) ?_ ((if_pos rfl).trans ?_)
        · rw [if_pos (by simp <;> omega), hx, Option.bind_some, decide_eq_false hc']
          rfl
        · simp only
          rw [next_nat e (by omega)]
    · have : e = s.length := by omega
      subst this
      refine TendsL.fin (.of fun F => ?_)
      unfold M_conciergeref05_Path_l0
      refine bindE (a := (s, (), at', (s.length : Int), false, out, ())) (if_neg (by simp)) ?_
      rw [if_neg (by simp), List.drop_eq_nil_of_le (Nat.le_refl _)]
      rfl
def rpR : Option (List (List UInt8)) → (Unit × List (List UInt8) × Unit) ⊕ (List UInt8 × Bool × Unit)
  | none => .inr ([], false, ())
  | some l => .inl ((), l, ())
theorem rwalk_step (s : List UInt8) (hs : s.length ≤ 900) (a : Nat) (ha : a ≤ s.length) (out : List (List UInt8)) (ho : out.length ≤ 5000) (q : List UInt8) (ok : Bool) (hq : readF ((s.drop a).take (segN (s.drop a))) = (q, ok)) (r : (List UInt8 × Unit × Int × List (List UInt8) × Unit) ⊕ ((Unit × List (List UInt8) × Unit) ⊕ (List UInt8 × Bool × Unit)))
    (hr : r = if ok = false then .inr (.inr ([], false, ())) else if q = [] ∨ q = [46] then .inl (s, (), ((a + segN (s.drop a) + 1 : Nat) : Int), out, ()) else
      if q = [46, 46] then (if out = [] then .inr (.inr ([], false, ())) else .inl (s, (), ((a + segN (s.drop a) + 1 : Nat) : Int), out.take (out.length - 1), ())) else .inl (s, (), ((a + segN (s.drop a) + 1 : Nat) : Int), out ++ [q], ())) :
    Tends (fun F => M_conciergeref05_Path_l1 F (s, (), (a : Int), out, ())) r := by
  have hseg := segN_le (s.drop a)
  rw [List.length_drop] at hseg
  have hsub : sub s (a : Int) ((a + segN (s.drop a) : Nat) : Int) = some ((s.drop a).take (segN (s.drop a))) := by
    rw [subN s a _ (by omega) (by omega)]
    congr 2
    omega
  have hrd := rread_tends ((s.drop a).take (segN (s.drop a))) (by simp <;> omega)
  rw [hq] at hrd
  unfold M_conciergeref05_Path_l1
  refine Tends.pos (by simp <;> omega) (Tends.bind (seg_loop s (by omega) (a : Int) out _ a (Nat.le_refl _) ha).run ?_)
  refine Tends.bind (r := (s, (), ((a + segN (s.drop a) : Nat) : Int), q, ok, out, ())) (Tends.bind (.const hsub) (Tends.bind hrd (.ret _))) ?_
  have hn := next_nat (a + segN (s.drop a)) (by omega)
  cases ok
  · rw [hr, if_pos rfl]
    exact Tends.pos rfl (.ret _)
  · rw [if_neg (by simp)] at hr
    refine Tends.neg (by simp) ?_
    by_cases hd : q = [] ∨ q = [46]
    · rw [if_pos hd] at hr
      rw [hr]
      refine Tends.bind (r := (s, (), ((a + segN (s.drop a) + 1 : Nat) : Int), q, true, out, ())) (.of fun F => ?_) (Tends.pos rfl (.ret _))
      simp only [hn]
      by_cases h0 : q = []
      · rw [if_neg (by simp [h0])]
      · have h1 : q = [46] := hd.resolve_left h0
        rw [if_pos (by simpa using h0), decide_eq_true h1]
    · rw [if_neg hd] at hr
      have h0 : ¬ q = [] := fun h => hd (.inl h)
      have h1 : ¬ q = [46] := fun h => hd (.inr h)
      refine Tends.bind (r := (s, (), ((a + segN (s.drop a) + 1 : Nat) : Int), q, false, out, ())) (.of fun F => ?_) (Tends.neg (by simp) ?_)
      · simp only [hn]
        rw [if_pos (by simpa using h0), decide_eq_false h1]
      by_cases h2 : q = [46, 46]
      · rw [if_pos h2] at hr
        refine Tends.pos (by simpa using h2) ?_
        by_cases hz : out = []
        · rw [if_pos hz] at hr
          rw [hr]
          exact Tends.pos (by simp [hz]) (.ret _)
        · rw [if_neg hz] at hr
          rw [hr]
          have hlen : 0 < out.length := List.length_pos_iff.2 hz
          have hw : IntKind.i64.wrap ((out.length : Int) - 1) = ((out.length - 1 : Nat) : Int) := by rw [wrap64] <;> omega
          refine Tends.neg (by simp [hz]) (.of fun F => ?_)
          simp only [hw]
          rw [if_pos (by simp <;> omega), Int.toNat_natCast]
      · rw [if_neg h2] at hr
        rw [hr]
        exact Tends.neg (by simpa using h2) (Tends.pos (by simp <;> omega) (.ret _))
theorem rwalk_loop (s : List UInt8) (hs : s.length ≤ 900) : ∀ (m a : Nat) (out : List (List UInt8)), s.length - a ≤ m → a ≤ s.length → out.length + (s.length - a) ≤ 4000 →
    TendsL M_conciergeref05_Path_l1 (s, (), (a : Int), out, ()) (rpR (walkP (splitL (s.drop a)) out))
  | m, a, out, hm, ha, ho => by
    have hseg := segN_le (s.drop a)
    rw [List.length_drop] at hseg
    rw [splitL_seg, walkP]
    obtain ⟨q, ok, hq⟩ : ∃ q ok, readF ((s.drop a).take (segN (s.drop a))) = (q, ok) := ⟨_, _, rfl⟩
    have go := rwalk_step s hs a ha out (by omega) q ok hq _ rfl
    -- what follows a part
    have next : ∀ out' : List (List UInt8), out'.length ≤ out.length + 1 → TendsL M_conciergeref05_Path_l1 (s, (), ((a + segN (s.drop a) + 1 : Nat) : Int), out', ()) (rpR (walkP (if segN (s.drop a) < (s.drop a).length then splitL ((s.drop a).drop (segN (s.drop a) + 1)) else []) out')) := by
      intro out' ho'
      by_cases hlt : segN (s.drop a) < (s.drop a).length
      · rw [if_pos hlt]
        rw [List.length_drop] at hlt
        cases m with
        | zero => omega
        | succ m =>
        have ih := rwalk_loop s hs m (a + segN (s.drop a) + 1) out' (by omega) (by omega) (by omega)
        rw [List.drop_drop]
        exact ih
      · rw [if_neg hlt]
        rw [List.length_drop] at hlt
        refine TendsL.fin (.of fun F => ?_)
        unfold M_conciergeref05_Path_l1
        refine (if_neg (by simp <;> omega)).trans ?_
        rfl
    rw [hq]
    simp only
    cases ok
    · rw [if_pos rfl] at go ⊢
      exact TendsL.fin go
    · rw [if_neg (by simp)] at go ⊢
      by_cases hd : q = [] ∨ q = [46]
      · rw [if_pos hd] at go ⊢
        exact TendsL.step go (next out (by omega))
      · rw [if_neg hd] at go ⊢
        by_cases h2 : q = [46, 46]
        · rw [if_pos h2] at go ⊢
          by_cases hz : out = []
          · rw [if_pos hz] at go ⊢
            exact TendsL.fin go
          · rw [if_neg hz] at go ⊢
            exact TendsL.step go (next _ (by simp <;> omega))
        · rw [if_neg h2] at go ⊢
          exact TendsL.step go (next _ (by simp))
theorem rpath_tends5 (s : List UInt8) : Tends (fun F => M_conciergeref05_Path F s) (pathF s) := by
  unfold M_conciergeref05_Path
  cases s with
  | nil =>
    refine Tends.bind (r := ([], true, ())) (.of fun F => if_neg (by simp)) ?_
    exact Tends.bind (r := ([], true, ())) (.of fun F => if_neg (by simp)) (Tends.pos rfl (.ret _))
  | cons c t =>
  by_cases h60 : 59 < t.length
  · rw [pathF_out (.inl h60)]
    refine Tends.bind (r := (c :: t, true, ())) (.of fun F => (if_pos (by simp <;> omega)).trans ?_) ?_
    · rw [decide_eq_true (by simp <;> omega)]
    exact Tends.bind (r := (c :: t, true, ())) (.of fun F => if_neg (by simp)) (Tends.pos rfl (.ret _))
  refine Tends.bind (r := (c :: t, false, ())) (.of fun F => (if_pos (by simp <;> omega)).trans ?_) ?_
  · rw [decide_eq_false (by simp <;> omega)]
  by_cases hc : c = 47
  · subst hc
    refine Tends.bind (r := (47 :: t, false, ())) (.of fun F => rfl) (Tends.neg (by simp) ?_)
    have hl := rwalk_loop (47 :: t) (by simp <;> omega) _ 1 [] (Nat.le_refl _) (by simp) (by simp <;> omega)
    rw [List.drop_succ_cons, List.drop_zero] at hl
    refine Tends.bind hl.run ?_
    rw [pathF_in h60]
    cases hw : walkP (splitL t) [] with
    | none => exact .ret _
    | some l =>
      obtain ⟨h1, h2⟩ := splitL_each 900 t (by omega)
      obtain ⟨f1, f2⟩ := walkP_few _ _ l 0 ⟨by simp, by simp⟩ (fun p hp => by have := h2 p hp; omega) hw
      have hl := rjoin_loop l (by omega) f2 _ 0 [] (Nat.zero_add _) (by simp <;> omega)
      rw [List.drop_zero, List.nil_append] at hl
      simp only [rpR, sumC]
      refine Tends.bind hl.run ?_
      show Tends _ (finP l)
      unfold finP
      refine Tends.bind (r := ((if joinP l = [] then [47] else joinP l), ())) (.of fun F => ?_) ?_
      · by_cases h0 : joinP l = []
        · rw [if_pos (by simpa using h0), if_pos h0]
        · rw [if_neg (by simpa using h0), if_neg h0]
      · by_cases hz : 60 < (if joinP l = [] then [47] else joinP l).length
        · rw [if_pos hz]
          exact Tends.pos (by simp only [decide_eq_true_eq]; omega) (.ret _)
        · rw [if_neg hz]
          exact Tends.neg (by simp only [decide_eq_true_eq]; omega) (.ret _)
  · rw [pathF_out (.inr hc)]
    have hc' : ¬ ((c.toNat : Int) = 47) := fun h => hc (UInt8.toNat_inj.1 (by show c.toNat = 47; omega))
    refine Tends.bind (r := (c :: t, true, ())) (.of fun F => (if_pos rfl).trans ?_) (Tends.pos rfl (.ret _))
    show some (c :: t, !decide ((c.toNat : Int) = 47), ()) = _
    rw [decide_eq_false hc']
    rfl
/-! ### a form's form -/
end Go.Vm
/- Tables: patterns, what fits, rules, their lines: plainly. No condition. -/
namespace Go.Vm
open Go.Lib (decDigits itoa decodeL)
set_option linter.unusedVariables false
set_option linter.unusedSimpArgs false
/-! ### paths and patterns -/
def formG (s : By) : Bool := (pathF s).2 && decide ((pathF s).1 = s)
def partsG (s : By) : List By := match s with
  | [] => []
  | c :: t => if c = 47 then (if t = [] then [] else splC 47 t) else []
def patL : List By → Bool
  | [] => true
  | x :: r => (decide (x = [42]) || (decide (x = [42, 42]) && decide (r = [])) || (decide (x ≠ []) && formG (47 :: x))) && patL r
def patG (s : By) : Bool := decide (s ≠ []) && decide (s.length ≤ 60) && decide (s.head? = some 47) && patL (partsG s)
def fitsL : List By → List By → Bool
  | [], b => decide (b = [])
  | _ :: _, [] => false
  | x :: l, y :: b => if x = [42, 42] then true else if x = [42] ∨ x = y then fitsL l b else false
def fitsG (p s : By) : Bool := patG p && formG s && fitsL (partsG p) (partsG s)
def methG (s : By) : Bool := decide (s = [42]) || ((methF s).2 && decide ((methF s).1 = s))
abbrev RlT := By × By × List PhT × Unit
def ruleG (r : RlT) : Bool := methG r.1 && patG r.2.1 && mayG r.2.2.1
def mayR (l : List RlT) : Bool := decide (1 ≤ l.length) && decide (l.length ≤ 8) && l.all ruleG
def lineG (r : RlT) : By := r.1 ++ 32 :: (r.2.1 ++ 58 :: 32 :: printG r.2.2.1)
def printR (l : List RlT) : By := joinD 10 (l.map lineG)
def noSep (s : By) : Prop := ∀ b ∈ s, b ≠ 10 ∧ b ≠ 32 ∧ b ≠ 58
theorem noSep.app {a b : By} (ha : noSep a) (hb : noSep b) : noSep (a ++ b) := fun x hx => (List.mem_append.1 hx).elim (ha x) (hb x)
theorem hexU_tab : ∀ n : Fin 16, hexU n.val ≠ 10 ∧ hexU n.val ≠ 32 ∧ hexU n.val ≠ 58 := by decide +kernel
theorem plainB_no {c : UInt8} (h : plainB c = true) : c ≠ 10 ∧ c ≠ 32 ∧ c ≠ 58 := by
  refine ⟨?_, ?_, ?_⟩ <;> rintro rfl <;> exact absurd h (by decide)
theorem write_no (s : By) : noSep (writeL s) := by
  intro b hb
  unfold writeL at hb
  obtain ⟨c, _, hc⟩ := List.mem_flatMap.1 hb
  unfold wr1 at hc
  split at hc
  · rename_i hp
    rw [List.mem_singleton] at hc
    subst hc
    exact plainB_no hp
  · have hlt := c.toNat_lt
    simp only [List.mem_cons, List.not_mem_nil, or_false] at hc
    rcases hc with rfl | rfl | rfl
    · decide
    · exact hexU_tab ⟨c.toNat / 16, by omega⟩
    · exact hexU_tab ⟨c.toNat % 16, by omega⟩
theorem joinP_no (l : List By) : noSep (joinP l) := by
  intro b hb
  unfold joinP at hb
  obtain ⟨q, _, hq⟩ := List.mem_flatMap.1 hb
  rcases List.mem_cons.1 hq with rfl | hq
  · decide
  · exact write_no q b hq
theorem path_no (s : By) : noSep (pathF s).1 := by
  have h0 : noSep ([] : By) := fun b hb => by cases hb
  cases s with
  | nil => exact h0
  | cons c t =>
    by_cases h : 59 < t.length ∨ c ≠ 47
    · rw [pathF_out h]; exact h0
    · have hc : c = 47 := Classical.byContradiction fun hh => h (.inr hh)
      subst hc
      rw [pathF_in fun hh => h (.inl hh)]
      split
      · exact h0
      · rename_i l _
        have hj : noSep (if joinP l = [] then [47] else joinP l) := by
          split
          · intro b hb
            rw [List.mem_singleton] at hb
            subst hb
            decide
          · exact joinP_no l
        unfold finP
        generalize (if joinP l = [] then [47] else joinP l : By) = w at hj
        by_cases hw : 60 < w.length
        · rw [if_pos hw]; exact h0
        · rw [if_neg hw]; exact hj
theorem form_no {s : By} (h : formG s = true) : noSep s := by
  unfold formG at h
  rw [Bool.and_eq_true, decide_eq_true_eq] at h
  have := path_no s
  rw [h.2] at this
  exact this
theorem patL_no : ∀ l : List By, patL l = true → ∀ x ∈ l, noSep x
  | [], h, x, hx => by cases hx
  | y :: l, h, x, hx => by
    unfold patL at h
    rw [Bool.and_eq_true] at h
    rcases List.mem_cons.1 hx with rfl | hx
    · have h1 := h.1
      simp only [Bool.or_eq_true, Bool.and_eq_true, decide_eq_true_eq] at h1
      rcases h1 with (rfl | ⟨rfl, _⟩) | ⟨_, h2⟩
      · intro b hb
        rw [List.mem_singleton] at hb
        subst hb
        decide
      · intro b hb
        simp only [List.mem_cons, List.not_mem_nil, or_false, or_self] at hb
        subst hb
        decide
      · exact fun b hb => form_no h2 b (List.mem_cons_of_mem _ hb)
    · exact patL_no l h.2 x hx
theorem joinD_no (d : UInt8) (hd : d ≠ 10 ∧ d ≠ 32 ∧ d ≠ 58) : ∀ l : List By, (∀ x ∈ l, noSep x) → noSep (joinD d l)
  | [], h => fun b hb => by cases hb
  | [p], h => h p (List.mem_cons_self ..)
  | p :: q :: r, h => by
    rw [joinD_cons d p (by simp)]
    refine (h p (List.mem_cons_self ..)).app ?_
    intro b hb
    rcases List.mem_cons.1 hb with rfl | hb
    · exact hd
    · exact joinD_no d hd (q :: r) (fun x hx => h x (List.mem_cons_of_mem _ hx)) b hb
theorem pat_no {s : By} (h : patG s = true) : noSep s := by
  unfold patG at h
  simp only [Bool.and_eq_true, decide_eq_true_eq] at h
  obtain ⟨⟨⟨h1, _⟩, h2⟩, h3⟩ := h
  cases s with
  | nil => exact absurd rfl h1
  | cons c t =>
    have hc : c = 47 := by simpa using h2
    subst hc
    intro b hb
    rcases List.mem_cons.1 hb with rfl | hb
    · decide
    · by_cases ht : t = []
      · subst ht; cases hb
      · have e : partsG (47 :: t) = splC 47 t := by unfold partsG; simp only [if_true]; rw [if_neg ht]
        rw [e] at h3
        have := joinD_no 47 (by decide) (splC 47 t) (patL_no _ h3)
        rw [join_splC] at this
        exact this b hb
theorem meth_no {s : By} (h : methG s = true) : noSep s := by
  unfold methG at h
  simp only [Bool.or_eq_true, Bool.and_eq_true, decide_eq_true_eq] at h
  rcases h with rfl | ⟨h1, h2⟩
  · intro b hb
    rw [List.mem_singleton] at hb
    subst hb
    decide
  · unfold methF at h1
    split at h1
    · cases h1
    · split at h1
      · rename_i ha
        intro b hb
        have := List.all_eq_true.1 ha b hb
        refine ⟨?_, ?_, ?_⟩ <;> rintro rfl <;> exact absurd this (by decide)
      · cases h1
theorem encN_big {d : Nat} (h : okR d) (hd : ¬ d < 128) : ∀ b ∈ encN d, 128 ≤ b.toNat := by
  obtain ⟨o1, o2⟩ := h
  have ne : ∀ k : Nat, 128 ≤ k → k < 256 → 128 ≤ (UInt8.ofNat k).toNat := by
    intro k h1 h2
    have e : (UInt8.ofNat k).toNat = k := by simp; omega
    omega
  intro b hb
  unfold encN at hb
  rw [if_neg hd] at hb
  split at hb
  · simp only [List.mem_cons, List.not_mem_nil, or_false] at hb
    rcases hb with rfl | rfl <;> exact ne _ (by omega) (by omega)
  split at hb
  · simp only [List.mem_cons, List.not_mem_nil, or_false] at hb
    rcases hb with rfl | rfl | rfl <;> exact ne _ (by omega) (by omega)
  · simp only [List.mem_cons, List.not_mem_nil, or_false] at hb
    rcases hb with rfl | rfl | rfl | rfl <;> exact ne _ (by omega) (by omega)
theorem allS_bytes : ∀ s : By, allS s = true → ∀ b ∈ s, b ≠ 10 := by
  refine signs_ind ?_ ?_
  · intro _ b hb; cases hb
  · intro l h ih ha b hb
    rw [allS_cons h, Bool.and_eq_true, decide_eq_true_eq] at ha
    obtain ⟨hs, ha⟩ := ha
    have hbad : ¬ ((decodeL l).1 = 65533 ∧ (decodeL l).2 = 1) := by
      rintro ⟨h1, _⟩
      rw [h1] at hs
      exact hs (by decide)
    rw [← List.take_append_drop (decodeL l).2 l] at hb
    rcases List.mem_append.1 hb with hb | hb
    · rw [take_encN l h hbad] at hb
      have hok := rune_ok l
      generalize (decodeL l).1 = d at *
      by_cases hd : d < 128
      · have e : encN d = [UInt8.ofNat d] := by unfold encN; rw [if_pos hd]
        rw [e, List.mem_singleton] at hb
        subst hb
        intro h10
        have := congrArg UInt8.toNat h10
        have e2 : (UInt8.ofNat d).toNat = d := by simp; omega
        rw [e2] at this
        have h3 : d = 10 := this
        subst h3
        exact hs (by decide)
      · have := encN_big hok hd b hb
        rintro rfl
        exact absurd this (by decide)
    · exact ih ha b hb
theorem check_all {t : By} (h : checkT t = true) : allS t = true := by
  unfold checkT at h
  rw [Bool.and_eq_true] at h
  have h2 := check_tok t
  rw [h.2, Bool.and_eq_true] at h2
  exact h2.1
theorem text_no10 {p : PhT} (h : rightG p = true) : ∀ b ∈ phText p, b ≠ 10 := by
  have hdig : ∀ n : Nat, ∀ b ∈ itoa (n : Int), b ≠ 10 := by
    intro n b hb
    have := itoa_dig n b hb
    rintro rfl
    exact absurd this (by decide)
  have hnm : ∀ {s : By}, nmP s = true → ∀ b ∈ s, b ≠ 10 := by
    intro s hs b hb
    unfold nmP at hs
    simp only [Bool.and_eq_true] at hs
    have := List.all_eq_true.1 hs.1.1 b hb
    rintro rfl
    exact absurd this (by decide)
  have htx : ∀ {t : By}, textG t = true → ∀ b ∈ t, b ≠ 10 := by
    intro t ht
    unfold textG at ht
    rw [Bool.and_eq_true] at ht
    exact allS_bytes t (check_all ht.2)
  rcases right_cases h with ⟨n, rfl, h1, h2⟩ | ⟨nm, n, rfl, h3, h1, h2⟩ | ⟨nm, t, rfl, h2, h3⟩ | ⟨n, t, rfl, h1, h3⟩
  · exact app_no (a := wOnly) (by decide) (cons_no (by decide) (hdig n))
  · exact app_no (a := wNeed) (by decide) (cons_no (by decide) (app_no (hnm h3) (cons_no (by decide) (hdig n))))
  · exact app_no (a := wCall) (by decide) (cons_no (by decide) (app_no (hnm h2) (tailG_no (by decide) (htx h3))))
  · exact app_no (a := wEnd) (by decide) (cons_no (by decide) (app_no (hdig n) (tailG_no (by decide) (htx h3))))
theorem print_no10 {l : List PhT} (h : mayG l = true) : ∀ b ∈ printG l, b ≠ 10 := by
  obtain ⟨h1, _, _⟩ := may_right h
  cases l with
  | nil => intro b hb; cases hb
  | cons p r =>
    rw [printG_cons]
    refine app_no (text_no10 (h1 p (List.mem_cons_self ..))) ?_
    have : ∀ r : List PhT, (∀ q ∈ r, rightG q = true) → ∀ b ∈ Lib.joinTail [59, 32] (r.map phText), b ≠ 10 := by
      intro r
      induction r with
      | nil => intro _ b hb; cases hb
      | cons q r ih =>
        intro hq
        show ∀ b ∈ [59, 32] ++ phText q ++ Lib.joinTail [59, 32] (r.map phText), b ≠ 10
        exact app_no (app_no (by decide) (text_no10 (hq q (List.mem_cons_self ..)))) (ih fun x hx => hq x (List.mem_cons_of_mem _ hx))
    exact this r fun q hq => h1 q (List.mem_cons_of_mem _ hq)
theorem line_no10 {r : RlT} (h : ruleG r = true) : ∀ b ∈ lineG r, b ≠ 10 := by
  unfold ruleG at h
  simp only [Bool.and_eq_true] at h
  obtain ⟨⟨h1, h2⟩, h3⟩ := h
  exact app_no (fun b hb => (meth_no h1 b hb).1) (cons_no (by decide) (app_no (fun b hb => (pat_no h2 b hb).1) (cons_no (by decide) (cons_no (by decide) (print_no10 h3)))))
/-! ### lines -/
theorem cut2_hit {a : By} (ha : ∀ b ∈ a, b ≠ 58) (t : By) : Lib.cut (a ++ 58 :: 32 :: t) [58, 32] = (a, t, true) := by
  have hi : Lib.index (a ++ 58 :: 32 :: t) [58, 32] = (a.length : Int) := by
    refine Lib.index_first (by simp) ?_ fun j hj => ?_
    · unfold Lib.occAt
      rw [List.drop_left]
      simp [List.isPrefixOf]
    · cases h : Lib.occAt (a ++ 58 :: 32 :: t) [58, 32] j with
      | false => rfl
      | true =>
        have := Lib.occAt_head (c := 58) (t := [32]) rfl h
        rw [List.getElem?_append_left hj] at this
        exact absurd rfl (ha 58 (List.mem_of_getElem? this))
  unfold Lib.cut
  rw [hi, if_pos (by omega)]
  simp
theorem cut2_of {s : By} (h : (Lib.cut s [58, 32]).2.2 = true) : s = (Lib.cut s [58, 32]).1 ++ 58 :: 32 :: (Lib.cut s [58, 32]).2.1 := by
  rcases Lib.index_spec s [58, 32] with ⟨hi, _⟩ | ⟨i, hi, hl, ho, _⟩
  · unfold Lib.cut at h
    rw [hi, if_neg (by decide)] at h
    cases h
  · have e : Lib.cut s [58, 32] = (s.take i, s.drop (i + 2), true) := by
      unfold Lib.cut
      rw [hi, if_pos (by omega)]
      simp
    rw [e]
    unfold Lib.occAt at ho
    obtain ⟨t, ht⟩ := List.isPrefixOf_iff_prefix.1 ho
    have h1 : s.drop (i + 2) = t := by rw [← List.drop_drop, ← ht]; rfl
    show s = s.take i ++ 58 :: 32 :: s.drop (i + 2)
    rw [h1]
    have : s = s.take i ++ s.drop i := (List.take_append_drop i s).symm
    rw [← ht] at this
    exact this
theorem cut1_of {s : By} (h : (Lib.cut s [32]).2.2 = true) : s = (Lib.cut s [32]).1 ++ 32 :: (Lib.cut s [32]).2.1 := by
  rcases cut_cases 32 s with ⟨p, q, hs, _, hc⟩ | ⟨_, hc⟩
  · rw [hc]; exact hs
  · rw [hc] at h; cases h
def lineP (x : By) : Option RlT := if (Lib.cut x [58, 32]).2.2 = false ∨ (Lib.cut (Lib.cut x [58, 32]).1 [32]).2.2 = false ∨ (parseT (Lib.cut x [58, 32]).2.1).2 ≠ 0 then none
  else some ((Lib.cut (Lib.cut x [58, 32]).1 [32]).1, (Lib.cut (Lib.cut x [58, 32]).1 [32]).2.1, (parseT (Lib.cut x [58, 32]).2.1).1, ())
theorem line_parse (r : RlT) (h : ruleG r = true) : lineP (lineG r) = some r := by
  obtain ⟨m, p, pr, u⟩ := r
  unfold ruleG at h
  simp only [Bool.and_eq_true] at h
  obtain ⟨⟨h1, h2⟩, h3⟩ := h
  have e : lineG (m, p, pr, u) = (m ++ 32 :: p) ++ 58 :: 32 :: printG pr := by unfold lineG; simp [List.append_assoc]
  have hc := cut2_hit (a := m ++ 32 :: p) (app_no (fun b hb => (meth_no h1 b hb).2.2) (cons_no (by decide) fun b hb => (pat_no h2 b hb).2.2)) (printG pr)
  have hd := cut_hit (d := 32) (p := m) (fun b hb => (meth_no h1 b hb).2.1) p
  unfold lineP
  rw [e, hc]
  simp only
  rw [hd, parseT_print pr h3]
  simp only
  rw [if_neg]
  rintro (h | h | h)
  · cases h
  · cases h
  · exact h rfl
theorem line_back (x : By) (r : RlT) (h : lineP x = some r) : lineG r = x := by
  unfold lineP at h
  split at h
  · cases h
  · rename_i hn
    have n1 : (Lib.cut x [58, 32]).2.2 = true := by
      cases hh : (Lib.cut x [58, 32]).2.2 with
      | true => rfl
      | false => exact absurd (.inl hh) hn
    have n2 : (Lib.cut (Lib.cut x [58, 32]).1 [32]).2.2 = true := by
      cases hh : (Lib.cut (Lib.cut x [58, 32]).1 [32]).2.2 with
      | true => rfl
      | false => exact absurd (.inr (.inl hh)) hn
    have n3 : (parseT (Lib.cut x [58, 32]).2.1).2 = 0 := Classical.byContradiction fun hh => hn (.inr (.inr hh))
    have e1 := cut2_of n1
    have e2 := cut1_of n2
    cases h
    unfold lineG
    simp only
    rcases parseT_cases (Lib.cut x [58, 32]).2.1 with ⟨l, _, hs, hp⟩ | ⟨_, hp⟩
    · rw [hp]
      simp only
      rw [← hs]
      have : (Lib.cut (Lib.cut x [58, 32]).1 [32]).1 ++ 32 :: ((Lib.cut (Lib.cut x [58, 32]).1 [32]).2.1 ++ 58 :: 32 :: (Lib.cut x [58, 32]).2.1) = (Lib.cut x [58, 32]).1 ++ 58 :: 32 :: (Lib.cut x [58, 32]).2.1 := by
        rw [← List.cons_append, ← List.append_assoc, ← e2]
      rw [this, ← e1]
    · rw [hp] at n3
      exact absurd n3 (by decide)
def linesP : List By → Option (List RlT)
  | [] => some []
  | x :: xs => match lineP x with
    | none => none
    | some r => (linesP xs).map (r :: ·)
def parseR (s : By) : List RlT × Int := match linesP (splC 10 s) with
  | some l => if mayR l = true then (l, 0) else ([], 3)
  | none => ([], 3)
theorem lines_parse : ∀ l : List RlT, (∀ r ∈ l, ruleG r = true) → linesP (l.map lineG) = some l
  | [], h => rfl
  | r :: l, h => by
    rw [List.map_cons]
    unfold linesP
    rw [line_parse r (h r (List.mem_cons_self ..))]
    simp only
    rw [lines_parse l fun q hq => h q (List.mem_cons_of_mem _ hq)]
    rfl
theorem lines_back : ∀ (xs : List By) (l : List RlT), linesP xs = some l → l.map lineG = xs
  | [], l, h => by cases h; rfl
  | x :: xs, l, h => by
    unfold linesP at h
    split at h
    · cases h
    · rename_i r hr
      obtain ⟨l', h1, rfl⟩ := Option.map_eq_some_iff.1 h
      rw [List.map_cons, line_back x r hr, lines_back xs l' h1]
theorem mayR_all {l : List RlT} (h : mayR l = true) : l ≠ [] ∧ l.length ≤ 8 ∧ ∀ r ∈ l, ruleG r = true := by
  unfold mayR at h
  simp only [Bool.and_eq_true, decide_eq_true_eq] at h
  refine ⟨?_, h.1.2, fun r hr => List.all_eq_true.1 h.2 r hr⟩
  rintro rfl
  simp at h
theorem parseR_print (l : List RlT) (h : mayR l = true) : parseR (printR l) = (l, 0) := by
  obtain ⟨h0, _, h1⟩ := mayR_all h
  have hs : splC 10 (printR l) = l.map lineG := splC_join _ (by simpa using h0) fun x hx => by
    obtain ⟨r, hr, rfl⟩ := List.mem_map.1 hx
    exact line_no10 (h1 r hr)
  unfold parseR
  rw [hs, lines_parse l h1]
  exact if_pos h
theorem parseR_cases (s : By) : (∃ l, mayR l = true ∧ s = printR l ∧ parseR s = (l, 0)) ∨ ((∀ l, mayR l = true → s ≠ printR l) ∧ parseR s = ([], 3)) := by
  by_cases h : ∃ l, mayR l = true ∧ s = printR l
  · obtain ⟨l, h1, rfl⟩ := h
    exact .inl ⟨l, h1, rfl, parseR_print l h1⟩
  · refine .inr ⟨fun l h1 h2 => h ⟨l, h1, h2⟩, ?_⟩
    unfold parseR
    cases hp : linesP (splC 10 s) with
    | none => rfl
    | some l =>
      by_cases hm : mayR l = true
      · refine absurd ⟨l, hm, ?_⟩ h
        unfold printR
        rw [lines_back _ l hp, join_splC]
      · exact if_neg hm
end Go.Vm
