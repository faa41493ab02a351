/- Heads: requests as texts of lines, plainly; one turned is the same. No condition but on lengths. -/
import Derived.Test.YtgeafoacmnlioaaDoorPbase
namespace Go.Vm
set_option linter.unusedVariables false
set_option linter.unusedSimpArgs false
abbrev HB := List UInt8
abbrev HdF := HB × HB × Unit
def cutAt (d : UInt8) : HB → Option (HB × HB)
  | [] => none
  | c :: s => if c = d then some ([], s) else (cutAt d s).map fun x => (c :: x.1, x.2)
def noCR (x : HB) : HB := if x.getLast? = some 13 then x.dropLast else x
def lineP (s : HB) : Option (HB × HB) := (cutAt 10 s).map fun x => (noCR x.1, x.2)
def foldC (c : UInt8) : UInt8 := if 65 ≤ c.toNat ∧ c.toNat ≤ 90 then UInt8.ofNat (c.toNat + 32) else c
def foldB (s : HB) : HB := s.map foldC
def blB (c : UInt8) : Bool := decide (c = 32) || decide (c = 9)
def trimL (s : HB) : HB := s.dropWhile blB
def trimB (s : HB) : HB := (trimL (trimL s).reverse).reverse
def ltrB (c : UInt8) : Bool := decide (97 ≤ c.toNat ∧ c.toNat ≤ 122) || decide (48 ≤ c.toNat ∧ c.toNat ≤ 57) || decide (c = 45)
def hnB (n : HB) : Bool := n.all ltrB && decide (1 ≤ n.length) && decide (n.length ≤ 20)
def oneP (vok : HB → Bool) (fs : List HdF) (x : HB) : List HdF × Int := match cutAt 58 x with
  | none => ([], 3)
  | some (n, v) => if (hnB (foldB n) && vok (trimB v)) = true then (if (fs.any fun f => decide (f.1 = foldB n)) = true then ([], 7) else (fs ++ [(foldB n, trimB v, ())], 0)) else ([], 3)
def fieldsP (vok : HB → Bool) : Nat → HB → List HdF → (List HdF × HB) × Int
  | 0, _, _ => (([], []), 3)
  | n + 1, s, fs => match lineP s with
    | none => (([], []), 3)
    | some (x, r) => if x = [] then ((fs, r), 0) else if (oneP vok fs x).2 = 0 then fieldsP vok n r (oneP vok fs x).1 else (([], []), (oneP vok fs x).2)
def firstP (x : HB) : Option (HB × HB) := match cutAt 32 x with
  | none => none
  | some (m, p) => if m = [] ∨ p = [] then none else some (m, p)
abbrev HdT := HB × HB × HB × List HdF
def readP (vok : HB → Bool) (s : HB) : HdT × Int := if 600 < s.length then (([], [], [], []), 5) else match lineP s with
  | none => (([], [], [], []), 3)
  | some (x, r) => match firstP x with
    | none => (([], [], [], []), 3)
    | some (m, p) => if (fieldsP vok (r.length + 1) r []).2 = 0 then ((m, p, (fieldsP vok (r.length + 1) r []).1.2, (fieldsP vok (r.length + 1) r []).1.1), 0) else (([], [], [], []), (fieldsP vok (r.length + 1) r []).2)
def getP (n : HB) : List HdF → HB × Bool
  | [] => ([], false)
  | f :: l => if f.1 = n then (f.2.1, true) else getP n l
abbrev wKey : HB := [105, 100, 101, 109, 112, 111, 116, 101, 110, 99, 121, 45, 107, 101, 121]
abbrev wTen : HB := [116, 101, 110, 97, 110, 116]
abbrev HdR := Int × Int × Int × HB × HB × HB × HB × Unit
abbrev zHdR : HdR := (0, 0, 0, [], [], [], [], ())
def parseH (vok : HB → Bool) (s : HB) : HdR × Int :=
  if (readP vok s).2 ≠ 0 then (zHdR, (readP vok s).2) else
  if (getP wKey (readP vok s).1.2.2.2).2 = false then (zHdR, 6) else
  if (getP wTen (readP vok s).1.2.2.2).2 = true then
    (match (getP wTen (readP vok s).1.2.2.2).1 with
     | [c] => if 48 ≤ c.toNat ∧ c.toNat ≤ 51 then ((0, 0, (c.toNat : Int) - 48, (getP wKey (readP vok s).1.2.2.2).1, (readP vok s).1.1, (readP vok s).1.2.1, (readP vok s).1.2.2.1, ()), 0) else (zHdR, 1)
     | _ => (zHdR, 1))
  else ((0, 0, 0, (getP wKey (readP vok s).1.2.2.2).1, (readP vok s).1.1, (readP vok s).1.2.1, (readP vok s).1.2.2.1, ()), 0)
theorem cutAt_some {d : UInt8} : ∀ (s a b : HB), cutAt d s = some (a, b) → s = a ++ d :: b ∧ ∀ c ∈ a, c ≠ d
  | [], a, b, h => by cases h
  | c :: s, a, b, h => by
    unfold cutAt at h
    by_cases hc : c = d
    · rw [if_pos hc] at h
      cases h
      exact ⟨by rw [hc]; rfl, fun x hx => by cases hx⟩
    · rw [if_neg hc] at h
      obtain ⟨⟨x, y⟩, hx, he⟩ := Option.map_eq_some_iff.1 h
      cases he
      obtain ⟨h1, h2⟩ := cutAt_some s x y hx
      refine ⟨by rw [h1]; rfl, fun z hz => ?_⟩
      rcases List.mem_cons.1 hz with rfl | hz
      · exact hc
      · exact h2 z hz
theorem noCR_len (x : HB) : (noCR x).length ≤ x.length ∧ x.length ≤ (noCR x).length + 1 := by
  unfold noCR
  split
  · rw [List.length_dropLast]; omega
  · omega
theorem trimL_len (s : HB) : (trimL s).length ≤ s.length := (List.dropWhile_sublist _).length_le
theorem trimB_len (s : HB) : (trimB s).length ≤ s.length := by
  unfold trimB
  rw [List.length_reverse]
  have h1 := trimL_len (trimL s).reverse
  have h2 := trimL_len s
  rw [List.length_reverse] at h1
  omega
theorem trimL_cons {c : UInt8} (h : blB c = true) (s : HB) : trimL (c :: s) = trimL s := by
  unfold trimL
  rw [List.dropWhile_cons, if_pos h]
theorem trimL_all {s : HB} (h : s.all blB = true) : trimL s = [] := by
  unfold trimL
  induction s with
  | nil => rfl
  | cons c s ih =>
    rw [List.all_cons, Bool.and_eq_true] at h
    rw [List.dropWhile_cons, if_pos h.1, ih h.2]
theorem trimL_app (s t : HB) : trimL (s ++ t) = if s.all blB = true then trimL t else trimL s ++ t := by
  induction s with
  | nil => rfl
  | cons c s ih =>
    rw [List.cons_append]
    by_cases hc : blB c = true
    · rw [trimL_cons hc, ih, List.all_cons, hc, Bool.true_and, trimL_cons hc]
    · have e : (c :: s).all blB = false := by rw [List.all_cons]; simp [hc]
      rw [e, if_neg (by decide)]
      unfold trimL
      rw [List.dropWhile_cons, if_neg hc, List.dropWhile_cons, if_neg hc]
      rfl
theorem trimB_back (s t : HB) (ht : t.all blB = true) : trimB (s ++ t) = trimB s := by
  unfold trimB
  rw [trimL_app]
  by_cases hs : s.all blB = true
  · rw [if_pos hs, trimL_all ht, trimL_all hs]
  · rw [if_neg hs, List.reverse_append, trimL_app, if_pos (by rw [List.all_reverse]; exact ht)]
/-! ### fields -/
theorem oneP_zero {vok : HB → Bool} {fs : List HdF} {x : HB} (h : (oneP vok fs x).2 = 0) : ∃ n v, cutAt 58 x = some (n, v) ∧ vok (trimB v) = true ∧ (oneP vok fs x).1 = fs ++ [(foldB n, trimB v, ())] := by
  unfold oneP at h ⊢
  cases hc : cutAt 58 x with
  | none => rw [hc] at h; cases h
  | some y =>
    obtain ⟨n, v⟩ := y
    rw [hc] at h
    simp only at h ⊢
    by_cases h1 : (hnB (foldB n) && vok (trimB v)) = true
    · rw [if_pos h1] at h ⊢
      by_cases h2 : (fs.any fun f => decide (f.1 = foldB n)) = true
      · rw [if_pos h2] at h; cases h
      · rw [if_neg h2]
        rw [Bool.and_eq_true] at h1
        exact ⟨n, v, rfl, h1.2, rfl⟩
    · rw [if_neg h1] at h; cases h
theorem lineP_some {s x r : HB} (h : lineP s = some (x, r)) : ∃ y, cutAt 10 s = some (y, r) ∧ x = noCR y := by
  unfold lineP at h
  obtain ⟨⟨y, z⟩, hy, he⟩ := Option.map_eq_some_iff.1 h
  cases he
  exact ⟨y, hy, rfl⟩
theorem readP_zero {vok : HB → Bool} {s : HB} (h : (readP vok s).2 = 0) : ∃ x r m p, lineP s = some (x, r) ∧ firstP x = some (m, p) ∧ (fieldsP vok (r.length + 1) r []).2 = 0 ∧ (readP vok s).1 = (m, p, (fieldsP vok (r.length + 1) r []).1.2, (fieldsP vok (r.length + 1) r []).1.1) := by
  unfold readP at h ⊢
  by_cases h6 : 600 < s.length
  · rw [if_pos h6] at h; cases h
  rw [if_neg h6] at h ⊢
  cases hl : lineP s with
  | none => rw [hl] at h; cases h
  | some y =>
    obtain ⟨x, r⟩ := y
    rw [hl] at h
    simp only at h ⊢
    cases hf : firstP x with
    | none => rw [hf] at h; cases h
    | some z =>
      obtain ⟨m, p⟩ := z
      rw [hf] at h
      simp only at h ⊢
      by_cases h1 : (fieldsP vok (r.length + 1) r []).2 = 0
      · rw [if_pos h1]; exact ⟨x, r, m, p, rfl, hf, h1, rfl⟩
      · rw [if_neg h1] at h; exact absurd h h1
end Go.Vm
