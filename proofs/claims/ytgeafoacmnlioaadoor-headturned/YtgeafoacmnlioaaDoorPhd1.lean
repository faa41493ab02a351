/- Heads: requests as texts of lines, plainly; one turned is the same. No condition but on lengths. -/
import Derived.Test.YtgeafoacmnlioaaDoorPbase
namespace Go.Vm
set_option linter.unusedVariables false
set_option linter.unusedSimpArgs false
abbrev HB := List UInt8
abbrev HdF := HB × HB × Unit
def cutAt (d : UInt8) : HB → Option (HB × HB)
  | [] => none
  | c :: s => if c = d then some ([], s) else (cutAt d s).map fun x => (c :: x.1, x.2)
def noCR (x : HB) : HB := if x.getLast? = some 13 then x.dropLast else x
def lineP (s : HB) : Option (HB × HB) := (cutAt 10 s).map fun x => (noCR x.1, x.2)
def foldC (c : UInt8) : UInt8 := if 65 ≤ c.toNat ∧ c.toNat ≤ 90 then UInt8.ofNat (c.toNat + 32) else c
def foldB (s : HB) : HB := s.map foldC
def blB (c : UInt8) : Bool := decide (c = 32) || decide (c = 9)
def trimL (s : HB) : HB := s.dropWhile blB
def trimB (s : HB) : HB := (trimL (trimL s).reverse).reverse
def ltrB (c : UInt8) : Bool := decide (97 ≤ c.toNat ∧ c.toNat ≤ 122) || decide (48 ≤ c.toNat ∧ c.toNat ≤ 57) || decide (c = 45)
def hnB (n : HB) : Bool := n.all ltrB && decide (1 ≤ n.length) && decide (n.length ≤ 20)
def oneP (vok : HB → Bool) (fs : List HdF) (x : HB) : List HdF × Int := match cutAt 58 x with
  | none => ([], 3)
  | some (n, v) => if (hnB (foldB n) && vok (trimB v)) = true then (if (fs.any fun f => decide (f.1 = foldB n)) = true then ([], 7) else (fs ++ [(foldB n, trimB v, ())], 0)) else ([], 3)
def fieldsP (vok : HB → Bool) : Nat → HB → List HdF → (List HdF × HB) × Int
  | 0, _, _ => (([], []), 3)
  | n + 1, s, fs => match lineP s with
    | none => (([], []), 3)
    | some (x, r) => if x = [] then ((fs, r), 0) else if (oneP vok fs x).2 = 0 then fieldsP vok n r (oneP vok fs x).1 else (([], []), (oneP vok fs x).2)
def firstP (x : HB) : Option (HB × HB) := match cutAt 32 x with
  | none => none
  | some (m, p) => if m = [] ∨ p = [] then none else some (m, p)
abbrev HdT := HB × HB × HB × List HdF
def readP (vok : HB → Bool) (s : HB) : HdT × Int := if 600 < s.length then (([], [], [], []), 5) else match lineP s with
  | none => (([], [], [], []), 3)
  | some (x, r) => match firstP x with
    | none => (([], [], [], []), 3)
    | some (m, p) => if (fieldsP vok (r.length + 1) r []).2 = 0 then ((m, p, (fieldsP vok (r.length + 1) r []).1.2, (fieldsP vok (r.length + 1) r []).1.1), 0) else (([], [], [], []), (fieldsP vok (r.length + 1) r []).2)
def getP (n : HB) : List HdF → HB × Bool
  | [] => ([], false)
  | f :: l => if f.1 = n then (f.2.1, true) else getP n l
abbrev wKey : HB := [105, 100, 101, 109, 112, 111, 116, 101, 110, 99, 121, 45, 107, 101, 121]
abbrev wTen : HB := [116, 101, 110, 97, 110, 116]
abbrev HdR := Int × Int × Int × HB × HB × HB × HB × Unit
abbrev zHdR : HdR := (0, 0, 0, [], [], [], [], ())
def parseH (vok : HB → Bool) (s : HB) : HdR × Int :=
  if (readP vok s).2 ≠ 0 then (zHdR, (readP vok s).2) else
  if (getP wKey (readP vok s).1.2.2.2).2 = false then (zHdR, 6) else
  if (getP wTen (readP vok s).1.2.2.2).2 = true then
    (match (getP wTen (readP vok s).1.2.2.2).1 with
     | [c] => if 48 ≤ c.toNat ∧ c.toNat ≤ 51 then ((0, 0, (c.toNat : Int) - 48, (getP wKey (readP vok s).1.2.2.2).1, (readP vok s).1.1, (readP vok s).1.2.1, (readP vok s).1.2.2.1, ()), 0) else (zHdR, 1)
     | _ => (zHdR, 1))
  else ((0, 0, 0, (getP wKey (readP vok s).1.2.2.2).1, (readP vok s).1.1, (readP vok s).1.2.1, (readP vok s).1.2.2.1, ()), 0)
def textH (d : UInt8) (k m p b : HB) : HB := m ++ 32 :: (p ++ 10 :: ((wKey ++ 58 :: 32 :: k) ++ 10 :: ((wTen ++ [58, 32, d]) ++ 10 :: 10 :: b)))
abbrev wTEN : HB := [84, 69, 78, 65, 78, 84]
abbrev wIKEY : HB := [73, 100, 101, 109, 112, 111, 116, 101, 110, 99, 121, 45, 75, 69, 89]
def turnH (d : UInt8) (k m p b : HB) : HB := (m ++ 32 :: p ++ [13]) ++ 10 :: ((wTEN ++ [58, d, 9, 13]) ++ 10 :: ((wIKEY ++ 58 :: 32 :: 9 :: (k ++ [32, 32, 13])) ++ 10 :: ([13] ++ 10 :: b)))
/-! ### cutting -/
theorem cutAt_app {d : UInt8} : ∀ (a b : HB), (∀ c ∈ a, c ≠ d) → cutAt d (a ++ d :: b) = some (a, b)
  | [], b, h => by simp [cutAt]
  | c :: a, b, h => by
    have hc := h c (List.mem_cons_self ..)
    rw [List.cons_append, cutAt, if_neg hc, cutAt_app a b fun x hx => h x (List.mem_cons_of_mem _ hx)]
    rfl
theorem cutAt_some {d : UInt8} : ∀ (s a b : HB), cutAt d s = some (a, b) → s = a ++ d :: b ∧ ∀ c ∈ a, c ≠ d
  | [], a, b, h => by cases h
  | c :: s, a, b, h => by
    unfold cutAt at h
    by_cases hc : c = d
    · rw [if_pos hc] at h
      cases h
      exact ⟨by rw [hc]; rfl, fun x hx => by cases hx⟩
    · rw [if_neg hc] at h
      obtain ⟨⟨x, y⟩, hx, he⟩ := Option.map_eq_some_iff.1 h
      cases he
      obtain ⟨h1, h2⟩ := cutAt_some s x y hx
      refine ⟨by rw [h1]; rfl, fun z hz => ?_⟩
      rcases List.mem_cons.1 hz with rfl | hz
      · exact hc
      · exact h2 z hz
theorem noCR_len (x : HB) : (noCR x).length ≤ x.length ∧ x.length ≤ (noCR x).length + 1 := by
  unfold noCR
  split
  · rw [List.length_dropLast]; omega
  · omega
theorem noCR_id {x : HB} (h : (noCR x).length = x.length) : noCR x = x := by
  unfold noCR at h ⊢
  split at h
  · rename_i hl
    rw [List.length_dropLast] at h
    cases x with
    | nil => cases hl
    | cons c x => rw [List.length_cons] at h; omega
  · rename_i hl
    rw [if_neg hl]
theorem noCR_13 (x : HB) : noCR (x ++ [13]) = x := by
  unfold noCR
  rw [if_pos (by simp), List.dropLast_concat]
theorem cutAt_at {d : UInt8} {a b x r : HB} (h : cutAt d (a ++ d :: b) = some (x, r)) : ((∀ c ∈ a, c ≠ d) ∧ x = a ∧ r = b) ∨ (x.length < a.length ∧ ∃ y, a = x ++ d :: y ∧ r = y ++ d :: b) := by
  by_cases ha : ∀ c ∈ a, c ≠ d
  · rw [cutAt_app a b ha] at h
    cases h
    exact .inl ⟨ha, rfl, rfl⟩
  · right
    induction a generalizing x with
    | nil => exact absurd (fun c hc => by cases hc) ha
    | cons c a ih =>
      rw [List.cons_append, cutAt] at h
      by_cases hc : c = d
      · rw [if_pos hc] at h
        cases h
        exact ⟨by simp, a, by rw [hc]; rfl, rfl⟩
      · rw [if_neg hc] at h
        obtain ⟨⟨x', r'⟩, hx, he⟩ := Option.map_eq_some_iff.1 h
        cases he
        have ha' : ¬ ∀ z ∈ a, z ≠ d := fun hh => ha fun z hz => by
          rcases List.mem_cons.1 hz with rfl | hz
          · exact hc
          · exact hh z hz
        obtain ⟨h1, y, h2, h3⟩ := ih hx ha'
        exact ⟨by simpa using h1, y, by rw [h2]; rfl, h3⟩
/-! ### trimming -/
theorem trimL_len (s : HB) : (trimL s).length ≤ s.length := (List.dropWhile_sublist _).length_le
theorem trimB_len (s : HB) : (trimB s).length ≤ s.length := by
  unfold trimB
  rw [List.length_reverse]
  have h1 := trimL_len (trimL s).reverse
  have h2 := trimL_len s
  rw [List.length_reverse] at h1
  omega
theorem trimL_cons {c : UInt8} (h : blB c = true) (s : HB) : trimL (c :: s) = trimL s := by
  unfold trimL
  rw [List.dropWhile_cons, if_pos h]
theorem trimB_cons {c : UInt8} (h : blB c = true) (s : HB) : trimB (c :: s) = trimB s := by
  unfold trimB
  rw [trimL_cons h]
theorem trimL_all {s : HB} (h : s.all blB = true) : trimL s = [] := by
  unfold trimL
  induction s with
  | nil => rfl
  | cons c s ih =>
    rw [List.all_cons, Bool.and_eq_true] at h
    rw [List.dropWhile_cons, if_pos h.1, ih h.2]
theorem trimL_app (s t : HB) : trimL (s ++ t) = if s.all blB = true then trimL t else trimL s ++ t := by
  induction s with
  | nil => rfl
  | cons c s ih =>
    rw [List.cons_append]
    by_cases hc : blB c = true
    · rw [trimL_cons hc, ih, List.all_cons, hc, Bool.true_and, trimL_cons hc]
    · have e : (c :: s).all blB = false := by rw [List.all_cons]; simp [hc]
      rw [e, if_neg (by decide)]
      unfold trimL
      rw [List.dropWhile_cons, if_neg hc, List.dropWhile_cons, if_neg hc]
      rfl
theorem trimB_back (s t : HB) (ht : t.all blB = true) : trimB (s ++ t) = trimB s := by
  unfold trimB
  rw [trimL_app]
  by_cases hs : s.all blB = true
  · rw [if_pos hs, trimL_all ht, trimL_all hs]
  · rw [if_neg hs, List.reverse_append, trimL_app, if_pos (by rw [List.all_reverse]; exact ht)]
/-! ### fields -/
theorem oneP_zero {vok : HB → Bool} {fs : List HdF} {x : HB} (h : (oneP vok fs x).2 = 0) : ∃ n v, cutAt 58 x = some (n, v) ∧ vok (trimB v) = true ∧ (oneP vok fs x).1 = fs ++ [(foldB n, trimB v, ())] := by
  unfold oneP at h ⊢
  cases hc : cutAt 58 x with
  | none => rw [hc] at h; cases h
  | some y =>
    obtain ⟨n, v⟩ := y
    rw [hc] at h
    simp only at h ⊢
    by_cases h1 : (hnB (foldB n) && vok (trimB v)) = true
    · rw [if_pos h1] at h ⊢
      by_cases h2 : (fs.any fun f => decide (f.1 = foldB n)) = true
      · rw [if_pos h2] at h; cases h
      · rw [if_neg h2]
        rw [Bool.and_eq_true] at h1
        exact ⟨n, v, rfl, h1.2, rfl⟩
    · rw [if_neg h1] at h; cases h
theorem fieldsP_pre {vok : HB → Bool} : ∀ (n : Nat) (s : HB) (fs : List HdF), (fieldsP vok n s fs).2 = 0 → ∃ l, (fieldsP vok n s fs).1.1 = fs ++ l
  | 0, s, fs, h => by cases h
  | n + 1, s, fs, h => by
    unfold fieldsP at h ⊢
    cases hl : lineP s with
    | none => rw [hl] at h; cases h
    | some y =>
      obtain ⟨x, r⟩ := y
      rw [hl] at h
      simp only at h ⊢
      by_cases hx : x = []
      · rw [if_pos hx]; exact ⟨[], by simp⟩
      · rw [if_neg hx] at h ⊢
        by_cases h1 : (oneP vok fs x).2 = 0
        · rw [if_pos h1] at h ⊢
          obtain ⟨l, e⟩ := fieldsP_pre n r _ h
          obtain ⟨nm, v, _, _, e2⟩ := oneP_zero h1
          exact ⟨(foldB nm, trimB v, ()) :: l, by rw [e, e2]; simp⟩
        · rw [if_neg h1] at h; exact absurd h h1
theorem fieldsP_step {vok : HB → Bool} {n : Nat} {s x r : HB} {fs : List HdF} (hl : lineP s = some (x, r)) (hx : x ≠ []) (h : (fieldsP vok (n + 1) s fs).2 = 0) : (oneP vok fs x).2 = 0 ∧ fieldsP vok (n + 1) s fs = fieldsP vok n r (oneP vok fs x).1 := by
  have e : fieldsP vok (n + 1) s fs = if (oneP vok fs x).2 = 0 then fieldsP vok n r (oneP vok fs x).1 else (([], []), (oneP vok fs x).2) := by
    rw [fieldsP, hl]
    simp only
    rw [if_neg hx]
  rw [e] at h
  by_cases h1 : (oneP vok fs x).2 = 0
  · rw [if_pos h1] at e; exact ⟨h1, e⟩
  · rw [if_neg h1] at h; exact absurd h h1
/-! ### what is read of a request's text -/
theorem cutAt_pre {d : UInt8} : ∀ (a s : HB), (∀ c ∈ a, c ≠ d) → cutAt d (a ++ s) = (cutAt d s).map fun x => (a ++ x.1, x.2)
  | [], s, h => by cases h : cutAt d s <;> simp [h]
  | c :: a, s, h => by
    rw [List.cons_append, cutAt, if_neg (h c (List.mem_cons_self ..)), cutAt_pre a s fun x hx => h x (List.mem_cons_of_mem _ hx), Option.map_map]
    rfl
theorem noCR_app (a k : HB) (h : a.getLast? ≠ some 13) : noCR (a ++ k) = a ++ noCR k := by
  cases k with
  | nil =>
    rw [List.append_nil]
    unfold noCR
    rw [if_neg h]
    simp
  | cons c k =>
    unfold noCR
    have e : (a ++ c :: k).getLast? = (c :: k).getLast? := by rw [List.getLast?_append, List.getLast?_cons]; rfl
    rw [e]
    split
    · rw [List.dropLast_append_of_ne_nil (by simp)]
    · rfl
theorem lineP_some {s x r : HB} (h : lineP s = some (x, r)) : ∃ y, cutAt 10 s = some (y, r) ∧ x = noCR y := by
  unfold lineP at h
  obtain ⟨⟨y, z⟩, hy, he⟩ := Option.map_eq_some_iff.1 h
  cases he
  exact ⟨y, hy, rfl⟩
theorem firstP_some {x m p : HB} (h : firstP x = some (m, p)) : x = m ++ 32 :: p ∧ (∀ c ∈ m, c ≠ 32) ∧ m ≠ [] ∧ p ≠ [] := by
  unfold firstP at h
  cases hc : cutAt 32 x with
  | none => rw [hc] at h; cases h
  | some y =>
    obtain ⟨a, b⟩ := y
    rw [hc] at h
    simp only at h
    by_cases h1 : a = [] ∨ b = []
    · rw [if_pos h1] at h; cases h
    · rw [if_neg h1] at h
      cases h
      obtain ⟨e1, e2⟩ := cutAt_some _ _ _ hc
      exact ⟨e1, e2, fun e => h1 (.inl e), fun e => h1 (.inr e)⟩
theorem readP_zero {vok : HB → Bool} {s : HB} (h : (readP vok s).2 = 0) : ∃ x r m p, lineP s = some (x, r) ∧ firstP x = some (m, p) ∧ (fieldsP vok (r.length + 1) r []).2 = 0 ∧ (readP vok s).1 = (m, p, (fieldsP vok (r.length + 1) r []).1.2, (fieldsP vok (r.length + 1) r []).1.1) := by
  unfold readP at h ⊢
  by_cases h6 : 600 < s.length
  · rw [if_pos h6] at h; cases h
  rw [if_neg h6] at h ⊢
  cases hl : lineP s with
  | none => rw [hl] at h; cases h
  | some y =>
    obtain ⟨x, r⟩ := y
    rw [hl] at h
    simp only at h ⊢
    cases hf : firstP x with
    | none => rw [hf] at h; cases h
    | some z =>
      obtain ⟨m, p⟩ := z
      rw [hf] at h
      simp only at h ⊢
      by_cases h1 : (fieldsP vok (r.length + 1) r []).2 = 0
      · rw [if_pos h1]; exact ⟨x, r, m, p, rfl, hf, h1, rfl⟩
      · rw [if_neg h1] at h; exact absurd h h1
theorem getP_head (n v : HB) (l : List HdF) : getP n ((n, v, ()) :: l) = (v, true) := by unfold getP; rw [if_pos rfl]
theorem foldB_key : foldB wKey = wKey := by decide
theorem foldB_ten : foldB wTen = wTen := by decide
theorem key_58 : ∀ c ∈ wKey, c ≠ 58 := by decide
theorem ten_58 : ∀ c ∈ wTen, c ≠ 58 := by decide
theorem dig_bl {d : UInt8} (hd : 48 ≤ d.toNat ∧ d.toNat ≤ 51) : blB d = false ∧ d ≠ 10 ∧ d ≠ 13 := by
  refine ⟨?_, fun e => ?_, fun e => ?_⟩
  · unfold blB
    have h1 : d ≠ 32 := fun e => by rw [e] at hd; exact absurd hd (by decide)
    have h2 : d ≠ 9 := fun e => by rw [e] at hd; exact absurd hd (by decide)
    simp [h1, h2]
  · rw [e] at hd; exact absurd hd (by decide)
  · rw [e] at hd; exact absurd hd (by decide)
theorem trim_dig {d : UInt8} (h : blB d = false) : trimB [d] = [d] := by
  unfold trimB trimL
  simp [h]
theorem text_facts {vok : HB → Bool} {d : UInt8} {k m p b : HB} {t : Int} (hd : 48 ≤ d.toNat ∧ d.toNat ≤ 51) (h : parseH vok (textH d k m p b) = ((0, 0, t, k, m, p, b, ()), 0)) :
    m ≠ [] ∧ p ≠ [] ∧ (∀ c ∈ m ++ 32 :: p, c ≠ 10) ∧ (∀ c ∈ m, c ≠ 32) ∧ (∀ c ∈ k, c ≠ 10) ∧ trimB k = k ∧ vok k = true ∧ vok [d] = true ∧ t = (d.toNat : Int) - 48 := by
  obtain ⟨db, d10, d13⟩ := dig_bl hd
  unfold parseH at h
  have h1 : (readP vok (textH d k m p b)).2 = 0 := by
    by_cases hc : (readP vok (textH d k m p b)).2 = 0
    · exact hc
    · rw [if_pos hc] at h; exact congrArg Prod.snd h
  rw [if_neg (by rw [h1]; decide)] at h
  have h2 : (getP wKey (readP vok (textH d k m p b)).1.2.2.2).2 = true := by
    cases hc : (getP wKey (readP vok (textH d k m p b)).1.2.2.2).2 with
    | true => rfl
    | false => rw [hc, if_pos rfl] at h; cases congrArg Prod.snd h
  rw [h2, if_neg (by decide)] at h
  obtain ⟨x, r, m', p', hl, hf, hz, hr⟩ := readP_zero h1
  rw [hr] at h
  simp only at h
  obtain ⟨ex, e32, em, ep⟩ := firstP_some hf
  -- what is told of the whole
  have hall : m' = m ∧ p' = p ∧ (getP wKey (fieldsP vok (r.length + 1) r []).1.1).1 = k := by
    split at h
    · split at h
      · split at h
        · have := congrArg Prod.fst h
          simp only [Prod.mk.injEq] at this
          exact ⟨this.2.2.2.2.1, this.2.2.2.2.2.1, this.2.2.2.1⟩
        · cases congrArg Prod.snd h
      · cases congrArg Prod.snd h
    · have := congrArg Prod.fst h
      simp only [Prod.mk.injEq] at this
      exact ⟨this.2.2.2.2.1, this.2.2.2.2.2.1, this.2.2.2.1⟩
  obtain ⟨rfl, rfl, hk⟩ := hall
  obtain ⟨y, hy, exy⟩ := lineP_some hl
  have eT : textH d k m' p' b = (m' ++ 32 :: p') ++ 10 :: ((wKey ++ 58 :: 32 :: k) ++ 10 :: ((wTen ++ [58, 32, d]) ++ 10 :: 10 :: b)) := by unfold textH; simp
  rw [eT] at hy
  obtain ⟨n10, ey, er⟩ : (∀ c ∈ m' ++ 32 :: p', c ≠ 10) ∧ y = m' ++ 32 :: p' ∧ r = (wKey ++ 58 :: 32 :: k) ++ 10 :: ((wTen ++ [58, 32, d]) ++ 10 :: 10 :: b) := by
    rcases cutAt_at hy with hA | ⟨hlt, _⟩
    · exact hA
    · exfalso
      have l1 := (noCR_len y).1
      rw [← exy, ex] at l1
      omega
  subst er
  -- the key's line
  have eR : (wKey ++ 58 :: 32 :: k) ++ 10 :: ((wTen ++ [58, 32, d]) ++ 10 :: 10 :: b) = (wKey ++ [58, 32]) ++ (k ++ 10 :: ((wTen ++ [58, 32, d]) ++ 10 :: 10 :: b)) := by simp
  generalize hR2 : (wTen ++ [58, 32, d]) ++ 10 :: 10 :: b = R2 at *
  obtain ⟨N, hN⟩ : ∃ N, ((wKey ++ 58 :: 32 :: k) ++ 10 :: R2).length = N + 1 + 1 := ⟨_, by simp; rfl⟩
  rw [hN] at hz hk h
  cases hl1 : lineP ((wKey ++ 58 :: 32 :: k) ++ 10 :: R2) with
  | none =>
    exfalso
    unfold fieldsP at hz
    rw [hl1] at hz
    cases hz
  | some z =>
    obtain ⟨x1, r1⟩ := z
    obtain ⟨y1, hy1, ex1⟩ := lineP_some hl1
    rw [eR, cutAt_pre _ _ (by decide)] at hy1
    obtain ⟨⟨k1, r1'⟩, hk1, he1⟩ := Option.map_eq_some_iff.1 hy1
    cases he1
    have ex1' : x1 = wKey ++ 58 :: 32 :: noCR k1 := by
      rw [ex1, noCR_app _ _ (by decide)]
      simp
    have hx1 : x1 ≠ [] := by rw [ex1']; simp
    obtain ⟨o1, s1⟩ := fieldsP_step hl1 hx1 hz
    obtain ⟨n1, v1, c1, w1, f1⟩ := oneP_zero o1
    rw [ex1', cutAt_app _ _ key_58] at c1
    cases c1
    rw [trimB_cons (by decide)] at w1 f1
    rw [foldB_key, List.nil_append] at f1
    rw [s1, f1] at hz hk h
    obtain ⟨l1, p1⟩ := fieldsP_pre _ _ _ hz
    rw [p1, List.singleton_append, getP_head] at hk
    dsimp only at hz h p1 hk
    have lk1 := trimB_len (noCR k1)
    have lk2 := (noCR_len k1).1
    have lkk : (trimB (noCR k1)).length = k.length := by rw [hk]
    obtain ⟨k10, ek, er1⟩ : (∀ c ∈ k, c ≠ 10) ∧ k1 = k ∧ r1' = R2 := by
      rcases cutAt_at hk1 with hA | ⟨hlt, _⟩
      · exact hA
      · exfalso; omega
    subst ek
    have ekk : noCR k1 = k1 := noCR_id (by omega)
    rw [ekk] at hk w1
    rw [hk] at w1
    -- the tenant's line
    have hl2 : lineP R2 = some (wTen ++ [58, 32, d], 10 :: b) := by
      rw [← hR2]
      unfold lineP
      rw [cutAt_app _ _ (by
        intro c hc
        rcases List.mem_append.1 hc with hc | hc
        · exact (show ∀ c ∈ wTen, c ≠ 10 by decide) c hc
        · simp only [List.mem_cons, List.not_mem_nil, or_false] at hc
          rcases hc with rfl | rfl | rfl
          · decide
          · decide
          · exact d10)]
      show some (noCR (wTen ++ [58, 32, d]), 10 :: b) = _
      have : noCR (wTen ++ [58, 32, d]) = wTen ++ [58, 32, d] := by
        unfold noCR
        rw [if_neg (by simp; exact d13)]
      rw [this]
    rw [er1] at hz h p1
    obtain ⟨o2, s2⟩ := fieldsP_step hl2 (by simp) hz
    obtain ⟨n2, v2, c2, w2, f2⟩ := oneP_zero o2
    rw [show (wTen ++ [58, 32, d] : HB) = wTen ++ 58 :: [32, d] from rfl, cutAt_app _ _ ten_58] at c2
    cases c2
    rw [trimB_cons (by decide), trim_dig db] at w2 f2
    rw [foldB_ten] at f2
    rw [s2, f2] at hz h
    obtain ⟨l2, p2⟩ := fieldsP_pre _ _ _ hz
    have g2 : getP wTen (fieldsP vok (N + 1) (10 :: b) ([(wKey, trimB (noCR k1), ())] ++ [(wTen, [d], ())])).1.1 = ([d], true) := by
      rw [p2]
      show getP wTen ((wKey, _, ()) :: (wTen, [d], ()) :: l2) = _
      unfold getP
      rw [if_neg (show ¬ wKey = wTen by decide), getP_head]
    rw [g2, if_pos rfl] at h
    simp only at h
    rw [if_pos hd] at h
    have ht := congrArg (fun z => z.1.2.2.1) h
    exact ⟨em, ep, n10, e32, k10, hk, w1, w2, ht.symm⟩
/-! ### turned -/
theorem turned {vok : HB → Bool} {d : UInt8} {k m p b : HB} {t : Int} (hd : 48 ≤ d.toNat ∧ d.toNat ≤ 51) (hlen : (turnH d k m p b).length ≤ 600) (h : parseH vok (textH d k m p b) = ((0, 0, t, k, m, p, b, ()), 0)) :
    parseH vok (turnH d k m p b) = ((0, 0, t, k, m, p, b, ()), 0) := by
  obtain ⟨db, d10, d13⟩ := dig_bl hd
  obtain ⟨em, ep, n10, e32, k10, hk, w1, w2, ht⟩ := text_facts hd h
  have l0 : lineP (turnH d k m p b) = some (m ++ 32 :: p, (wTEN ++ [58, d, 9, 13]) ++ 10 :: ((wIKEY ++ 58 :: 32 :: 9 :: (k ++ [32, 32, 13])) ++ 10 :: ([13] ++ 10 :: b))) := by
    unfold lineP turnH
    rw [cutAt_app _ _ (by
      intro c hc
      rcases List.mem_append.1 hc with hc | hc
      · exact n10 c hc
      · rw [List.mem_singleton] at hc; subst hc; decide)]
    show some (noCR (m ++ 32 :: p ++ [13]), _) = _
    rw [noCR_13]
  have l1 : lineP ((wTEN ++ [58, d, 9, 13]) ++ 10 :: ((wIKEY ++ 58 :: 32 :: 9 :: (k ++ [32, 32, 13])) ++ 10 :: ([13] ++ 10 :: b))) = some (wTEN ++ 58 :: [d, 9], (wIKEY ++ 58 :: 32 :: 9 :: (k ++ [32, 32, 13])) ++ 10 :: ([13] ++ 10 :: b)) := by
    unfold lineP
    rw [cutAt_app _ _ (by
      intro c hc
      rcases List.mem_append.1 hc with hc | hc
      · exact (show ∀ c ∈ wTEN, c ≠ 10 by decide) c hc
      · simp only [List.mem_cons, List.not_mem_nil, or_false] at hc
        rcases hc with rfl | rfl | rfl | rfl
        · decide
        · exact d10
        · decide
        · decide)]
    show some (noCR ((wTEN ++ 58 :: [d, 9]) ++ [13]), _) = _
    rw [noCR_13]
  have l2 : lineP ((wIKEY ++ 58 :: 32 :: 9 :: (k ++ [32, 32, 13])) ++ 10 :: ([13] ++ 10 :: b)) = some (wIKEY ++ 58 :: (32 :: 9 :: (k ++ [32, 32])), [13] ++ 10 :: b) := by
    unfold lineP
    rw [cutAt_app _ _ (by
      intro c hc
      rcases List.mem_append.1 hc with hc | hc
      · exact (show ∀ c ∈ wIKEY, c ≠ 10 by decide) c hc
      · rcases List.mem_cons.1 hc with rfl | hc
        · decide
        rcases List.mem_cons.1 hc with rfl | hc
        · decide
        rcases List.mem_cons.1 hc with rfl | hc
        · decide
        rcases List.mem_append.1 hc with hc | hc
        · exact k10 c hc
        · simp only [List.mem_cons, List.not_mem_nil, or_false] at hc
          rcases hc with rfl | rfl | rfl <;> decide)]
    have e : wIKEY ++ 58 :: 32 :: 9 :: (k ++ [32, 32, 13]) = (wIKEY ++ 58 :: (32 :: 9 :: (k ++ [32, 32]))) ++ [13] := by simp
    show some (noCR (wIKEY ++ 58 :: 32 :: 9 :: (k ++ [32, 32, 13])), _) = _
    rw [e, noCR_13]
  have l3 : lineP ([13] ++ 10 :: b) = some ([], b) := by
    unfold lineP
    rw [cutAt_app [13] b (by decide)]
    rfl
  have t1 : trimB [d, 9] = [d] := by
    have := trimB_back [d] [9] (by decide)
    rw [trim_dig db] at this
    exact this
  have t2 : trimB (32 :: 9 :: (k ++ [32, 32])) = k := by
    rw [trimB_cons (by decide), trimB_cons (by decide), trimB_back k [32, 32] (by decide), hk]
  have o1 : oneP vok [] (wTEN ++ 58 :: [d, 9]) = ([(wTen, [d], ())], 0) := by
    unfold oneP
    rw [cutAt_app _ _ (by decide)]
    have f : foldB wTEN = wTen := by decide
    simp only [f, t1, w2]
    rw [if_pos (by decide), if_neg (by decide)]
    rfl
  have o2 : oneP vok [(wTen, [d], ())] (wIKEY ++ 58 :: (32 :: 9 :: (k ++ [32, 32]))) = ([(wTen, [d], ()), (wKey, k, ())], 0) := by
    unfold oneP
    rw [cutAt_app _ _ (by decide)]
    have f : foldB wIKEY = wKey := by decide
    simp only [f, t2, w1]
    have hne : ([(wTen, [d], ())] : List HdF).any (fun f => decide (f.1 = wKey)) = false := by
      show (decide (wTen = wKey) || false) = false
      decide
    rw [if_pos (by decide), hne, if_neg (by decide)]
    rfl
  have hf : ∀ N, 3 ≤ N → fieldsP vok N ((wTEN ++ [58, d, 9, 13]) ++ 10 :: ((wIKEY ++ 58 :: 32 :: 9 :: (k ++ [32, 32, 13])) ++ 10 :: ([13] ++ 10 :: b))) [] = (([(wTen, [d], ()), (wKey, k, ())], b), 0) := by
    intro N hN
    obtain ⟨N, rfl⟩ : ∃ M, N = M + 1 + 1 + 1 := ⟨N - 3, by omega⟩
    unfold fieldsP
    rw [l1]
    simp only
    rw [if_neg (by simp), o1, if_pos rfl]
    unfold fieldsP
    rw [l2]
    simp only
    rw [if_neg (by simp), o2, if_pos rfl]
    unfold fieldsP
    rw [l3]
    rfl
  have hfi : firstP (m ++ 32 :: p) = some (m, p) := by
    unfold firstP
    rw [cutAt_app _ _ e32]
    simp only
    rw [if_neg (by rintro (e | e); exact em e; exact ep e)]
  have hrd : readP vok (turnH d k m p b) = ((m, p, b, [(wTen, [d], ()), (wKey, k, ())]), 0) := by
    unfold readP
    rw [if_neg (by omega), l0]
    simp only
    rw [hfi]
    simp only
    rw [hf _ (by simp)]
    rfl
  unfold parseH
  rw [hrd, if_neg (show ¬ ((0 : Int) ≠ 0) by decide)]
  have g1 : getP wKey [(wTen, [d], ()), (wKey, k, ())] = (k, true) := by
    unfold getP
    rw [if_neg (show ¬ wTen = wKey by decide), getP_head]
  have g2 : getP wTen [(wTen, [d], ()), (wKey, k, ())] = ([d], true) := getP_head ..
  simp only [g1, g2]
  rw [if_neg (by decide), if_pos trivial, if_pos hd, ht]
end Go.Vm
