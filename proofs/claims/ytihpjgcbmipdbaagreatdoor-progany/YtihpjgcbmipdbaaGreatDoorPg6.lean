import Derived.Test.YtihpjgcbmipdbaaGreatDoorPg2
import Derived.Test.YtihpjgcbmipdbaaGreatDoorFsignx
import Derived.Test.YtihpjgcbmipdbaaGreatDoorPh1
import Derived.Test.YtihpjgcbmipdbaaGreatDoorFprog
import Derived.Lib.AtoiAllCases
import Derived.Test.YtihpjgcbmipdbaaGreatDoorFref23
import Derived.Test.YtihpjgcbmipdbaaGreatDoorFlaw23s
/- Programs: printed and parsed, plainly; the document's parser on a printed one. No condition. -/
namespace Go.Vm
open Go.Lib (decDigits itoa)
set_option linter.unusedVariables false
set_option linter.unusedSimpArgs false
def printG (l : List PhT) : By := Lib.join (l.map phText) [59, 32]
def restG : List By → Option (List PhT)
 | [] => some []
 | x :: r => match x with
  | 32 :: t => (restG r).map (readG t :: ·)
  | _ => none
def parsG (s : By) : Option (List PhT) := match splC 59 s with
 | x :: r => (restG r).map (readG x :: ·)
 | [] => none
theorem join_tail (x : By) : ∀ r : List By, joinD 59 (x :: r.map (fun t => 32 :: t)) = x ++ Lib.joinTail [59, 32] r
 | [] => by show x = x ++ []; rw [List.append_nil]
 | t :: r => by
  rw [List.map_cons, joinD_cons 59 x (by simp), join_tail (32 :: t) r]
  show x ++ 59 :: ((32 :: t) ++ Lib.joinTail [59, 32] r) = x ++ ((59 :: 32 :: t) ++ Lib.joinTail [59, 32] r)
  rfl
theorem printG_cons (p : PhT) (r : List PhT) : printG (p :: r) = phText p ++ Lib.joinTail [59, 32] (r.map phText) := by
 unfold printG
 rw [List.map_cons, Lib.join_cons]
theorem tailG_no {d : UInt8} (hd : d ≠ 32) {t : By} (h : ∀ b ∈ t, b ≠ d) : ∀ b ∈ tailG t, b ≠ d := by
 unfold tailG
 split
 ·exact fun b hb => by cases hb
 ·intro b hb
  rcases List.mem_cons.1 hb with rfl | hb
  ·exact fun e => hd e.symm
  ·exact h b hb
theorem textG_no {t : By} (h : textG t = true) : ∀ b ∈ t, b ≠ 59 := by
 unfold textG at h
 rw [Bool.and_eq_true] at h
 intro b hb
 have := List.all_eq_true.1 h.1 b hb
 simpa using this
theorem app_no {d : UInt8} {a b : By} (ha : ∀ x ∈ a, x ≠ d) (hb : ∀ x ∈ b, x ≠ d) : ∀ x ∈ a ++ b, x ≠ d := fun x hx => (List.mem_append.1 hx).elim (ha x) (hb x)
theorem cons_no {d c : UInt8} {b : By} (hc : c ≠ d) (hb : ∀ x ∈ b, x ≠ d) : ∀ x ∈ c :: b, x ≠ d := fun x hx => (List.mem_cons.1 hx).elim (fun e => e ▸ hc) (hb x)
theorem text_no {p : PhT} (h : rightG p = true) : ∀ b ∈ phText p, b ≠ 59 := by
 rcases right_cases h with ⟨n, rfl, h1, h2⟩ | ⟨nm, n, rfl, h3, h1, h2⟩ | ⟨nm, t, rfl, h2, h3⟩ | ⟨n, t, rfl, h1, h3⟩
 ·exact app_no (a := wOnly) (by decide) (cons_no (by decide) fun b hb => (dig_bytes n b hb).2)
 ·exact app_no (a := wNeed) (by decide) (cons_no (by decide) (app_no (fun b hb => (nm_bytes h3 b hb).2) (cons_no (by decide) fun b hb => (dig_bytes n b hb).2)))
 ·exact app_no (a := wCall) (by decide) (cons_no (by decide) (app_no (fun b hb => (nm_bytes h2 b hb).2) (tailG_no (by decide) (textG_no h3))))
 ·exact app_no (a := wEnd) (by decide) (cons_no (by decide) (app_no (fun b hb => (dig_bytes n b hb).2) (tailG_no (by decide) (textG_no h3))))
theorem text_ne (p : PhT) : phText p ≠ [] := by
 unfold phText
 repeat' split
 all_goals simp
theorem mayL_right : ∀ l : List PhT, mayL l = true → ∀ p ∈ l, rightG p = true
 | [], h, p, hp => by cases hp
 | q :: l, h, p, hp => by
  unfold mayL at h
  rw [Bool.and_eq_true, Bool.and_eq_true] at h
  rcases List.mem_cons.1 hp with rfl | hp
  ·exact h.1.1
  ·exact mayL_right l h.2 p hp
theorem may_right {l : List PhT} (h : mayG l = true) : (∀ p ∈ l, rightG p = true) ∧ 1 ≤ l.length ∧ l.length ≤ 5 := by
 unfold mayG at h
 simp only [Bool.and_eq_true, decide_eq_true_eq] at h
 exact ⟨mayL_right l h.2, h.1.1, h.1.2⟩
theorem rest_text : ∀ r : List PhT, (∀ p ∈ r, rightG p = true) → restG (r.map fun p => 32 :: phText p) = some r
 | [], h => rfl
 | p :: r, h => by
  rw [List.map_cons]
  show (restG (r.map fun p => 32 :: phText p)).map (readG (phText p) :: ·) = _
  rw [rest_text r fun q hq => h q (List.mem_cons_of_mem _ hq), (read_text p (h p (List.mem_cons_self ..))).1]
  rfl
theorem pars_print (l : List PhT) (h : mayG l = true) : parsG (printG l) = some l := by
 obtain ⟨h1, h2, h3⟩ := may_right h
 cases l with
 | nil => simp at h2
 | cons p r =>
  have e : printG (p :: r) = joinD 59 (phText p :: r.map fun p => 32 :: phText p) := by
   rw [printG_cons, ← join_tail, List.map_map]
   rfl
  have hs : splC 59 (joinD 59 (phText p :: r.map fun p => 32 :: phText p)) = phText p :: r.map fun p => 32 :: phText p := by
   refine splC_join _ (by simp) fun x hx => ?_
   rcases List.mem_cons.1 hx with rfl | hx
   ·exact text_no (h1 p (List.mem_cons_self ..))
   ·obtain ⟨q, hq, rfl⟩ := List.mem_map.1 hx
    exact cons_no (by decide) (text_no (h1 q (List.mem_cons_of_mem _ hq)))
  unfold parsG
  rw [e, hs]
  show (restG (r.map fun p => 32 :: phText p)).map (readG (phText p) :: ·) = _
  rw [rest_text r fun q hq => h1 q (List.mem_cons_of_mem _ hq), (read_text p (h1 p (List.mem_cons_self ..))).1]
  rfl
theorem rest_back : ∀ (xs : List By) (l : List PhT), restG xs = some l → (∀ p ∈ l, rightG p = true) → xs = l.map fun p => 32 :: phText p
 | [], l, h, _ => by
  cases h
  rfl
 | x :: xs, l, h, hr => by
  unfold restG at h
  split at h
  ·rename_i t
   obtain ⟨l', h1, rfl⟩ := Option.map_eq_some_iff.1 h
   have h2 := hr (readG t) (List.mem_cons_self ..)
   rw [List.map_cons, text_read t h2, ← rest_back xs l' h1 fun p hp => hr p (List.mem_cons_of_mem _ hp)]
  ·cases h
theorem print_pars (s : By) (l : List PhT) (h : parsG s = some l) (hm : mayG l = true) : printG l = s := by
 obtain ⟨h1, _, _⟩ := may_right hm
 have hj := join_splC 59 s
 unfold parsG at h
 cases hs : splC 59 s with
 | nil => exact absurd hs (splC_ne 59 s)
 | cons x xs =>
  rw [hs] at h hj
  obtain ⟨l', h2, rfl⟩ := Option.map_eq_some_iff.1 h
  have h3 := h1 (readG x) (List.mem_cons_self ..)
  rw [printG_cons, text_read x h3, ← join_tail, List.map_map]
  have := rest_back xs l' h2 fun p hp => h1 p (List.mem_cons_of_mem _ hp)
  rw [this] at hj
  exact hj
def parseT (s : By) : List PhT × Int := match parsG s with
 | some l => if mayG l = true then (l, 0) else ([], 3)
 | none => ([], 3)
theorem parseT_print (l : List PhT) (h : mayG l = true) : parseT (printG l) = (l, 0) := by
 unfold parseT
 rw [pars_print l h]
 exact if_pos h
theorem parseT_cases (s : By) : (∃ l, mayG l = true ∧ s = printG l ∧ parseT s = (l, 0)) ∨ ((∀ l, mayG l = true → s ≠ printG l) ∧ parseT s = ([], 3)) := by
 by_cases h : ∃ l, mayG l = true ∧ s = printG l
 ·obtain ⟨l, h1, rfl⟩ := h
  exact .inl ⟨l, h1, rfl, parseT_print l h1⟩
 ·refine .inr ⟨fun l h1 h2 => h ⟨l, h1, h2⟩, ?_⟩
  unfold parseT
  cases hp : parsG s with
  | none => rfl
  | some l =>
   by_cases hm : mayG l = true
   ·exact absurd ⟨l, hm, (print_pars s l hp hm).symm⟩ h
   ·exact if_neg hm
/-! ### the document's parser -/
def rloop (s : By) : Nat → Nat → Nat → List PhT → Option (List PhT)
 | 0, i, a, out => some out
 | n + 1, i, a, out => if 6 ≤ out.length then some out
  else if i = s.length ∨ s[i]? = some 59 then (if i < a then none else if s.length < i + 2 then some (out ++ [rreadG ((s.drop a).take (i - a))]) else rloop s n (i + 1) (i + 2) (out ++ [rreadG ((s.drop a).take (i - a))]))
  else rloop s n (i + 1) a out
def rparsG (s : By) : Option (List PhT) := rloop s (s.length + 1) 0 0 []
theorem rloop_skip (s : By) (a : Nat) (out : List PhT) (ho : out.length < 6) : ∀ (k i n : Nat), i + k ≤ s.length → (∀ j, i ≤ j → j < i + k → s[j]? ≠ some 59) → rloop s (n + k) i a out = rloop s n (i + k) a out
 | 0, i, n, h, hb => rfl
 | k + 1, i, n, h, hb => by
  have := rloop_skip s a out ho k (i + 1) n (by omega) fun j h1 h2 => hb j (by omega) (by omega)
  rw [show n + (k + 1) = (n + k) + 1 by omega, rloop, if_neg (by omega), if_neg, this, show i + 1 + k = i + (k + 1) by omega]
  rintro (h1 | h1)
  ·omega
  ·exact hb i (Nat.le_refl _) (by omega) h1
theorem rloop_print : ∀ (r : List PhT) (p : PhT) (pre : By) (out : List PhT), (∀ q ∈ p :: r, rightG q = true) → out.length + r.length ≤ 4 →
  rloop (pre ++ (phText p ++ Lib.joinTail [59, 32] (r.map phText))) ((pre ++ (phText p ++ Lib.joinTail [59, 32] (r.map phText))).length + 1 - pre.length) pre.length pre.length out = some (out ++ p :: r)
 | [], p, pre, out, hr, ho => by
  have hp := hr p (List.mem_cons_self ..)
  have e : pre ++ (phText p ++ Lib.joinTail [59, 32] (([] : List PhT).map phText)) = pre ++ phText p := by
   show pre ++ (phText p ++ []) = _
   rw [List.append_nil]
  rw [e]
  have hl : (pre ++ phText p).length = pre.length + (phText p).length := List.length_append
  have hsk := rloop_skip (pre ++ phText p) pre.length out (by simp only [List.length_nil] at ho; omega) (phText p).length pre.length 1 (by omega) (by
   intro j h1 h2 h3
   rw [List.getElem?_append_right h1] at h3
   exact text_no hp 59 (List.mem_of_getElem? h3) rfl)
  rw [show (pre ++ phText p).length + 1 - pre.length = 1 + (phText p).length by omega, hsk, rloop, if_neg (by simp only [List.length_nil] at ho; omega), if_pos (.inl (by omega)), if_neg (by omega), if_pos (by omega), List.drop_left, Nat.add_sub_cancel_left, List.take_length, (read_text p hp).2]
 | q :: r, p, pre, out, hr, ho => by
  have hp := hr p (List.mem_cons_self ..)
  simp only [List.length_cons] at ho
  have e : Lib.joinTail [59, 32] ((q :: r).map phText) = 59 :: 32 :: (phText q ++ Lib.joinTail [59, 32] (r.map phText)) := by
   rw [List.map_cons]
   rfl
  rw [e]
  have ih := rloop_print r q (pre ++ phText p ++ [59, 32]) (out ++ [p]) (fun x hx => hr x (List.mem_cons_of_mem _ hx)) (by rw [List.length_append, List.length_singleton]; omega)
  have e2 : pre ++ phText p ++ [59, 32] ++ (phText q ++ Lib.joinTail [59, 32] (r.map phText)) = pre ++ (phText p ++ 59 :: 32 :: (phText q ++ Lib.joinTail [59, 32] (r.map phText))) := by simp [List.append_assoc]
  rw [e2] at ih
  have hpl : (pre ++ phText p ++ [59, 32]).length = pre.length + (phText p).length + 2 := by rw [List.length_append, List.length_append]; rfl
  rw [hpl] at ih
  have hq := List.length_pos_iff.2 (text_ne q)
  have hsl : (pre ++ (phText p ++ 59 :: 32 :: (phText q ++ Lib.joinTail [59, 32] (r.map phText)))).length = pre.length + (phText p).length + 2 + (phText q ++ Lib.joinTail [59, 32] (r.map phText)).length := by
   simp only [List.length_append, List.length_cons]; omega
  have hql : 1 ≤ (phText q ++ Lib.joinTail [59, 32] (r.map phText)).length := by rw [List.length_append]; omega
  generalize hS : pre ++ (phText p ++ 59 :: 32 :: (phText q ++ Lib.joinTail [59, 32] (r.map phText))) = S at *
  have hat : ∀ j, S[pre.length + j]? = (phText p ++ 59 :: 32 :: (phText q ++ Lib.joinTail [59, 32] (r.map phText)))[j]? := by
   intro j
   rw [← hS, List.getElem?_append_right (by omega), Nat.add_sub_cancel_left]
  generalize (phText q ++ Lib.joinTail [59, 32] (r.map phText)) = T at *
  have h59 : S[pre.length + (phText p).length]? = some 59 := by rw [hat, List.getElem?_append_right (Nat.le_refl _), Nat.sub_self]; rfl
  have h32 : S[pre.length + (phText p).length + 1]? = some 32 := by rw [Nat.add_assoc, hat, List.getElem?_append_right (by omega), Nat.add_sub_cancel_left]; rfl
  have hsk := rloop_skip S pre.length out (by omega) (phText p).length pre.length (T.length + 3) (by omega) (by
   intro j h1 h2 h3
   rw [show j = pre.length + (j - pre.length) by omega, hat, List.getElem?_append_left (by omega)] at h3
   exact text_no hp 59 (List.mem_of_getElem? h3) rfl)
  have htk : (S.drop pre.length).take (phText p).length = phText p := by rw [← hS, List.drop_left, List.take_left]
  rw [show S.length + 1 - pre.length = T.length + 3 + (phText p).length by omega, hsk, rloop, if_neg (by omega), if_pos (.inr h59), if_neg (by omega), if_neg (by omega), Nat.add_sub_cancel_left, htk, (read_text p hp).2]
  rw [show T.length + 2 = (T.length + 1) + 1 by omega, rloop, if_neg (by rw [List.length_append, List.length_singleton]; omega), if_neg]
  ·rw [show S.length + 1 - (pre.length + (phText p).length + 2) = T.length + 1 by omega, List.append_assoc] at ih
   exact ih
  ·rintro (h | h)
   ·omega
   ·rw [h32] at h
    injection h with h
    exact absurd h (by decide)
theorem rpars_print (l : List PhT) (h : mayG l = true) : rparsG (printG l) = some l := by
 obtain ⟨h1, h2, h3⟩ := may_right h
 cases l with
 | nil => simp at h2
 | cons p r =>
  have := rloop_print r p [] [] h1 (by simp only [List.length_nil, List.length_cons] at h3 ⊢; omega)
  simp only [List.nil_append, List.length_nil, Nat.sub_zero] at this
  unfold rparsG
  rw [printG_cons]
  exact this
end Go.Vm
/- Phrases: gaps; the wake; the law of checks. No condition but on lengths. -/
namespace Go.Vm
open Go.Proofs
open Go.Lib (decodeL decodeN decodeL_N decode_N decodeN_shape decodeL_le)
set_option linter.unusedVariables false
set_option linter.unusedSimpArgs false
theorem signs_ascii : ∀ s : By, (∀ b ∈ s, b.toNat < 128) → (signs s).map (·.1) = s.map fun b => (b.toNat : Int)
 | [], h => by rw [signs_nil]; rfl
 | c :: s, h => by
  rw [signs_one c (h c (List.mem_cons_self ..)), List.map_cons, List.map_cons, signs_ascii s fun b hb => h b (List.mem_cons_of_mem _ hb)]
abbrev wkB : By := [123, 34, 115, 117, 109, 34, 58, 53, 125]
theorem wk_all : allP wkB = .ok (.obj [([115, 117, 109], .int 5, ())]) := by kernel_rfl
theorem wk_five : allP [53] = .ok (.int 5) := by kernel_rfl
theorem itoa_5 : Go.Lib.itoa 5 = [53] := by unfold Go.Lib.itoa; rw [if_neg (by decide)]; exact Go.Lib.decDigits_one (by decide)
theorem wk_mem : memT wkB [115, 117, 109] = [53] := by
 have hv : vP wkB = .obj [([115, 117, 109], .int 5, ())] := by unfold vP; rw [wk_all]
 have h5 : vP [53] = .int 5 := by unfold vP; rw [wk_five]
 have hl : layP 7 (.int 5) = [53] := by rw [layP_B]; exact itoa_5
 have hf : firstM [115, 117, 109] [(([115, 117, 109], .int 5, ()) : Me)] = ([53], true) := by
  unfold firstM
  rw [if_pos rfl, hl]
 have hf2 : firstM [115, 117, 109] (objL (vP wkB)) = ([53], true) := by rw [hv]; exact hf
 unfold memT
 rw [hf2, if_pos rfl]
 show (if kindP (vP [53]) = 4 then textP (vP [53]) else [53]) = _
 rw [h5]
 exact if_neg (by decide)
end Go.Vm
/- Phrases: what the document fills is the plain text. No condition but on lengths. -/
namespace Go.Vm
open Go.Proofs
open Go.Lib (decodeL decodeN decodeL_N decode_N decodeN_shape decodeL_le)
set_option linter.unusedVariables false
set_option linter.unusedSimpArgs false
/-! ### members -/
end Go.Vm
/- Programs: what is to be done next, how many calls are ahead: plainly. No condition. -/
namespace Go.Vm
open Go.Proofs
set_option linter.unusedVariables false
set_option linter.unusedSimpArgs false
abbrev DoT := Int × Int × By × Int × By × Int × Int × Int × By × By × Unit
abbrev zDo : DoT := (0, 0, [], 0, [], 0, 0, 0, [], [], ())
abbrev tRef : By := [114, 101, 102, 117, 115, 101, 100, 32]
abbrev EnT.pt (e : EnT) : Int := e.2.2.2.2.2.1
abbrev EnT.tk (e : EnT) : Int := e.2.2.2.2.1
abbrev EnT.ep (e : EnT) : Int := e.2.2.2.1
def onlyT (s : By) (n : Int) : Bool := decide (((signs s).length : Int) ≤ n) && ((signs s).map (·.1)).all fun x => decide (1 ≤ sortI x ∧ sortI x ≤ 3)
def needT (body name : By) (n : Int) : Bool := (firstM name (objL (vP body))).2 && (decide (kindP (vP (firstM name (objL (vP body))).1) = 3) && (decide (1 ≤ numV (vP (firstM name (objL (vP body))).1)) && decide (numV (vP (firstM name (objL (vP body))).1) ≤ n)))
def passD (ok : Bool) (why : By) : DoT := if ok = true then (1, 0, [], 0, [], 0, 0, 0, [], [], ()) else (2, 402, tRef ++ why, 0, [], 0, 0, 0, [], [], ())
def doT (x : PhT) (e : EnT) : DoT :=
 if x.1 = 1 then passD (onlyT e.body x.2.2.1) wOnly
 else if x.1 = 2 then passD (needT e.body x.2.1 x.2.2.1) (wNeed ++ 32 :: x.2.1)
 else if x.1 = 3 then (3, 0, [], e.1, e.key, e.ep, e.pt, e.tk, x.2.1, fillT x.2.2.2.1 e, ())
 else (2, x.2.2.1, fillT x.2.2.2.1 e, 0, [], 0, 0, 0, [], [], ())
def nextT (p : List PhT) (e : EnT) : DoT × Int :=
 if mayG p = false then (zDo, 1) else if e.pt < 0 ∨ (p.length : Int) ≤ e.pt then (zDo, 6) else
 match p[e.pt.toNat]? with
 | none => (zDo, 6)
 | some x => (doT x e, 0)
/-! ### calls -/
end Go.Vm
/- Signs of a text: how many, and whether all are of some sorts (cut out of the texts of sign). No condition but on lengths. -/
namespace Go.Vm
open Go.Lib (decodeL decodeN decodeL_N decode_N decodeN_shape decodeL_le)
set_option linter.unusedVariables false
set_option linter.unusedSimpArgs false
theorem idx_nat {α : Type} (l : List α) (k : Nat) : idx l (k : Int) = l[k]? := by
 unfold idx
 rw [if_pos (by omega)]
 simp
theorem idx_mid {α : Type} (pre t : List α) (x : α) : idx (pre ++ x :: t) (pre.length : Int) = some x := by
 rw [idx_nat]; simp
def findFrom (r : Int) : Nat → List Int → Int
 | _, [] => -1
 | k, x :: t => if x = r then (k : Int) else findFrom r (k + 1) t
theorem index_tends (l : List Int) (hl : l.length ≤ 1000000000000) (v : Int) : Tends (fun F => M_slices_Index_int_int F (l, v)) (findFrom v 0 l) := by
 have loop : ∀ (t pre : List Int), l = pre ++ t → ∃ y, TendsL M_slices_Index_int_int_l0 (l, v, (l.length : Int), (pre.length : Int), ()) y ∧ sumC y (fun _ => (-1 : Int)) (fun v => v.1) = findFrom v pre.length t := by
  intro t
  induction t with
  | nil =>
   intro pre h
   simp only [List.append_nil] at h
   subst h
   refine ⟨.inl (), TendsL.fin (Tends.of fun F => ?_), rfl⟩
   unfold M_slices_Index_int_int_l0
   simp
  | cons x t ih =>
   intro pre h
   have hlen : l.length = pre.length + (t.length + 1) := by rw [h]; simp
   have h1 : (pre.length : Int) < (l.length : Int) := by omega
   have hi : idx l (pre.length : Int) = some x := by rw [h]; exact idx_mid pre t x
   simp only [findFrom]
   by_cases he : x = v
   ·rw [if_pos he]
    refine ⟨.inr ((pre.length : Int), ()), TendsL.fin (Tends.of fun F => ?_), rfl⟩
    unfold M_slices_Index_int_int_l0
    simp [h1, hi, he]
   ·rw [if_neg he]
    obtain ⟨y, q1, q2⟩ := ih (pre ++ [x]) (by rw [h]; simp)
    refine ⟨y, TendsL.step (Tends.of fun F => ?_) q1, by simpa using q2⟩
    unfold M_slices_Index_int_int_l0
    have he' : ¬ v = x := fun e => he e.symm
    have hw : IntKind.i64.wrap ((pre.length : Int) + 1) = ((pre.length + 1 : Nat) : Int) := by rw [wrap64 _ (by omega) (by omega)]; rfl
    simp [h1, hi, he', hw]
 obtain ⟨y, h1, h2⟩ := loop l [] rfl
 unfold M_slices_Index_int_int
 refine h1.run.bind ?_
 refine Tends.of fun F => ?_
 rw [← (show _ = findFrom v 0 l from h2)]
 cases y <;> rfl
theorem findFrom_mem (v : Int) : ∀ (l : List Int) (k : Nat), decide (0 ≤ findFrom v k l) = decide (v ∈ l)
 | [], k => by simp [findFrom]
 | x :: t, k => by
  unfold findFrom
  by_cases h : x = v
  ·rw [if_pos h]
   have : (0 : Int) ≤ (k : Int) := by omega
   simp [this, h]
  ·rw [if_neg h, findFrom_mem v t (k + 1)]
   have h' : ¬ v = x := fun e => h e.symm
   simp [h']
theorem contains_tends (l : List Int) (hl : l.length ≤ 1000000000000) (v : Int) : Tends (fun F => M_slices_Contains_int_int F (l, v)) (decide (v ∈ l)) := by
 unfold M_slices_Contains_int_int
 refine (index_tends l hl v).bind ?_
 exact Tends.of fun F => by rw [findFrom_mem]
def onlyL (sorts : List Int) (l : List Int) : Bool := l.all fun x => decide (sortI x ∈ sorts)
theorem only_tends (s : List UInt8) (sorts : List Int) (hl : sorts.length ≤ 1000000000000) : Tends (fun F => M_sign_Only F (s, sorts)) (onlyL sorts ((signs s).map (·.1))) := by
 have loop : ∀ (n p : Nat), s.length - p ≤ n → p ≤ s.length →
   ∃ y, TendsL M_sign_Only_l0 (sorts, (), (s, p), ()) y ∧ sumC y (fun _ => true) (fun v => v.1) = onlyL sorts ((signs (s.drop p)).map (·.1)) := by
  intro n
  induction n with
  | zero =>
   intro p hn hp
   have hpe : p = s.length := by omega
   subst hpe
   refine ⟨.inl (), TendsL.fin (Tends.of fun F => ?_), by rw [List.drop_length, signs_nil]; rfl⟩
   unfold M_sign_Only_l0
   simp
  | succ n ih =>
   intro p hn hp
   by_cases hlt : p < s.length
   case neg => exact ih p (by omega) hp
   have hpos := decodeL_pos (s.drop p)
   have hnx := next_le hlt
   rw [signs_cons (drop_ne hlt), drop_next]
   have hc := contains_tends sorts hl (sortI ((decodeL (s.drop p)).1 : Int))
   by_cases he : sortI ((decodeL (s.drop p)).1 : Int) ∈ sorts
   ·obtain ⟨y, h1, h2⟩ := ih (p + (decodeL (s.drop p)).2) (by omega) hnx
    refine ⟨y, TendsL.step ?_ h1, by rw [h2]; simp [onlyL, he]⟩
    unfold M_sign_Only_l0
    simp only [hlt, decide_true, if_true, sort_eq, Option.bind_some, runeAt_eq, runeLen_eq]
    refine hc.bind ?_
    exact Tends.of fun F => by simp [he]
   ·refine ⟨.inr (false, ()), TendsL.fin ?_, by simp [onlyL, he, sumC]⟩
    unfold M_sign_Only_l0
    simp only [hlt, decide_true, if_true, sort_eq, Option.bind_some, runeAt_eq, runeLen_eq]
    refine hc.bind ?_
    exact Tends.of fun F => by simp [he]
 obtain ⟨y, h1, h2⟩ := loop s.length 0 (by omega) (by omega)
 unfold M_sign_Only
 refine h1.run.bind ?_
 refine Tends.of fun F => ?_
 rw [List.drop_zero] at h2
 rw [← h2]
 cases y <;> rfl
theorem countLoop (s : List UInt8) (hs : s.length ≤ 100000000000) (p : Nat) (hp : p ≤ s.length) (k : Nat) (hk : k + (s.length - p) ≤ 1000000000000) : TendsL M_sign_Count_l0 ((k : Int), (), (s, p), ()) (((k + (signs (s.drop p)).length : Nat) : Int), ()) := by
 have main : ∀ n p k, s.length - p ≤ n → p ≤ s.length → k + (s.length - p) ≤ 1000000000000 → TendsL M_sign_Count_l0 ((k : Int), (), (s, p), ()) (((k + (signs (s.drop p)).length : Nat) : Int), ()) := by
  intro n
  induction n with
  | zero =>
   intro p k hn hp hk
   have : p = s.length := by omega
   subst this
   refine TendsL.fin (Tends.of fun F => ?_)
   unfold M_sign_Count_l0
   simp [signs_nil]
  | succ n ih =>
   intro p k hn hp hk
   by_cases hlt : p < s.length
   ·have hpos := decodeL_pos (s.drop p)
    have hnx := next_le hlt
    rw [signs_cons (drop_ne hlt), drop_next]
    refine TendsL.step (x' := (((k + 1 : Nat) : Int), (), (s, p + (decodeL (s.drop p)).2), ())) (Tends.of fun F => ?_) ?_
    ·have w : IntKind.i64.wrap ((k : Int) + 1) = ((k + 1 : Nat) : Int) := by rw [wrap64 _ (by omega) (by omega)]; rfl
     unfold M_sign_Count_l0
     simp only [hlt, decide_true, if_true, runeLen_eq, w]
    ·have := ih (p + (decodeL (s.drop p)).2) (k + 1) (by omega) hnx (by omega)
     rw [List.length_cons, show k + ((signs (List.drop (p + (decodeL (List.drop p s)).2) s)).length + 1) = k + 1 + (signs (List.drop (p + (decodeL (List.drop p s)).2) s)).length by omega]
     exact this
   ·have : p = s.length := by omega
    subst this
    refine TendsL.fin (Tends.of fun F => ?_)
    unfold M_sign_Count_l0
    simp [signs_nil]
 exact main _ p k (Nat.le_refl _) hp hk
theorem count_tends (s : List UInt8) (hs : s.length ≤ 100000000000) : Tends (fun F => M_sign_Count F s) ((signs s).length : Int) := by
 unfold M_sign_Count
 have := countLoop s hs 0 (by omega) 0 (by omega)
 rw [List.drop_zero, Nat.zero_add] at this
 exact this.run.bind (k := fun F (v1 : Int × Unit) => some v1.1) (Tends.of fun F => rfl)
end Go.Vm
/- Programs: the program's functions are the plain ones. No condition but on lengths. -/
namespace Go.Vm
open Go.Proofs
open Go.Lib (decDigits itoa)
set_option linter.unusedVariables false
set_option linter.unusedSimpArgs false
/-! ### cutting -/
theorem index_t (F : Nat) (s c : By) (h : s.length ≤ 4294967280) : M_internal_stringslite_Index F (s, c) = some (Lib.index s c) := by
 unfold M_internal_stringslite_Index MIndex
 exact if_pos (decide_eq_true h)
theorem cut_len (s d : By) : (Lib.cut s d).1.length ≤ s.length ∧ (Lib.cut s d).2.1.length ≤ s.length := by
 unfold Lib.cut
 split
 ·exact ⟨by simp only [List.length_take]; omega, by simp only [List.length_drop]; omega⟩
 ·exact ⟨Nat.le_refl _, Nat.zero_le _⟩
theorem cut_eq (F : Nat) (s d : By) (h : s.length ≤ 1000000) (hd : d.length ≤ 1000) : M_strings_Cut F (s, d) = some (Lib.cut s d) := by
 unfold M_strings_Cut M_internal_stringslite_Cut
 simp only [index_t F s d (by omega), Option.bind_some]
 have hr := Lib.index_room s d
 have hg := Lib.index_ge s d
 by_cases h0 : 0 ≤ Lib.index s d
 ·obtain ⟨i, hi⟩ : ∃ i : Nat, Lib.index s d = i := ⟨(Lib.index s d).toNat, by omega⟩
  have hr' := hr h0
  rw [hi] at hr'
  have s1 : sub s 0 (i : Int) = some (s.take i) := by
   have := sub_nat s 0 i (Nat.zero_le _) (by omega)
   simpa using this
  have s2 : sub s ((i + d.length : Nat) : Int) (s.length : Int) = some (s.drop (i + d.length)) := sub_to_end s _ (by omega)
  have hw : IntKind.i64.wrap ((i : Int) + (d.length : Int)) = ((i + d.length : Nat) : Int) := by rw [wrap64 _ (by omega) (by omega)]; omega
  have e : Lib.cut s d = (s.take i, s.drop (i + d.length), true) := by
   unfold Lib.cut
   rw [hi, if_pos (by omega), Int.toNat_natCast]
  rw [hi, if_pos (by rw [decide_eq_true_eq]; omega), e]
  simp only [s1, hw, s2, Option.bind_some]
 ·have e : Lib.cut s d = (s, [], false) := by unfold Lib.cut; rw [if_neg h0]
  rw [if_neg (by rw [decide_eq_true_eq]; exact h0), e]
  rfl
theorem pre_hit (F : Nat) (t : By) (h : t.length ≤ 1000000) : M_strings_CutPrefix F (32 :: t, [32]) = some (t, true) := by
 unfold M_strings_CutPrefix M_internal_stringslite_CutPrefix M_internal_stringslite_HasPrefix
 have s0 : sub (32 :: t : By) 0 (([32] : By).length : Int) = some [32] := by
  have := sub_nat (32 :: t : By) 0 1 (by omega) (by simp)
  exact this
 have s1 : sub (32 :: t : By) (([32] : By).length : Int) ((32 :: t : By).length : Int) = some t := sub_to_end (32 :: t : By) 1 (by simp)
 rw [if_pos (by rw [decide_eq_true_eq]; simp only [List.length_cons, List.length_nil]; omega)]
 simp only [s0, Option.bind_some, decide_true, Bool.not_true, Bool.false_eq_true, if_false, s1]
theorem pre_miss (F : Nat) (x : By) (h : ∀ t, x ≠ 32 :: t) : M_strings_CutPrefix F (x, [32]) = some (x, false) := by
 unfold M_strings_CutPrefix M_internal_stringslite_CutPrefix M_internal_stringslite_HasPrefix
 cases x with
 | nil => rfl
 | cons c t =>
  have s0 : sub (c :: t : By) 0 (([32] : By).length : Int) = some [c] := by
   have := sub_nat (c :: t : By) 0 1 (by omega) (by simp)
   exact this
  have hc : ¬ ([c] : By) = [32] := by
   intro hh
   injection hh with hh _
   exact h t (by rw [hh])
  rw [if_pos (by rw [decide_eq_true_eq]; simp only [List.length_cons, List.length_nil]; omega)]
  simp only [s0, Option.bind_some, decide_eq_false hc, Bool.not_false, if_true]
/-! ### numbers, phases -/
theorem pnumber_t (F : Nat) (s : By) (h : s.length ≤ 1000000) : M_prog_number F s = some (numG s) := by
 unfold M_prog_number numG
 cases hx : Lib.atoiAll s with
 | ok n =>
  have ha : M_strconv_AtoiA F s = some (n, false) := by
   unfold M_strconv_AtoiA MAtoiA
   rw [if_pos (decide_eq_true (by omega)), hx]
  obtain ⟨b1, b2⟩ := Lib.atoiAll_bounds hx
  have hi : M_strconv_Itoa F n = some (itoa n) := by
   unfold M_strconv_Itoa MItoa
   rw [if_pos (decide_eq_true b1), if_pos (decide_eq_true b2)]
  simp only [ha, Option.bind_some, Bool.not_false, Bool.not_true, if_true]
  by_cases c1 : n < 1
  ·simp [c1]
  ·by_cases c2 : itoa n = s
   ·simp [c1, c2, hi]
   ·simp [c1, c2, hi]
 | range =>
  have ha : M_strconv_AtoiA F s = some (Lib.atoiSat s, true) := by
   unfold M_strconv_AtoiA MAtoiA
   rw [if_pos (decide_eq_true (by omega)), hx]
  simp [ha]
 | _ =>
  have ha : M_strconv_AtoiA F s = some (0, true) := by
   unfold M_strconv_AtoiA MAtoiA
   rw [if_pos (decide_eq_true (by omega)), hx]
  simp [ha]
theorem read_eq (F : Nat) (s : By) (h : s.length ≤ 100000) : M_prog_read F s = some (readG s) := by
 unfold M_prog_read readG
 have hl := (cut_len s [32]).2
 simp only [cut_eq F s [32] (by omega) (by decide), Option.bind_some]
 generalize Lib.cut s [32] = c at hl
 obtain ⟨kind, rest, more⟩ := c
 simp only at hl ⊢
 have hl2 := cut_len rest [32]
 cases more with
 | false => rfl
 | true =>
  simp only [Bool.not_true, Bool.false_eq_true, if_false, Bool.true_eq_false]
  by_cases k1 : kind = wOnly
  ·rw [if_pos (decide_eq_true k1), if_pos k1, pnumber_t F rest (by omega)]
   rfl
  rw [if_neg (by rw [decide_eq_true_eq]; exact k1), if_neg k1, cut_eq F rest [32] (by omega) (by decide)]
  simp only [Option.bind_some]
  generalize Lib.cut rest [32] = d at hl2
  obtain ⟨one, behind, mo⟩ := d
  simp only at hl2 ⊢
  have hb : (if decide (behind = []) = true then some ((), kind, one, behind, !decide (one = rest), z23, ()) else some ((), kind, one, behind, false, z23, ()) : Option (Unit × By × By × By × Bool × PhT × Unit)) = some ((), kind, one, behind, decide (behind = [] ∧ one ≠ rest), z23, ()) := by
   by_cases b1 : behind = []
   ·rw [if_pos (decide_eq_true b1)]
    by_cases b2 : one = rest <;> simp [b1, b2]
   ·rw [if_neg (by rw [decide_eq_true_eq]; exact b1)]
    simp [b1]
  rw [hb, Option.bind_some]
  simp only
  by_cases b3 : behind = [] ∧ one ≠ rest
  ·rw [if_pos (decide_eq_true b3), if_pos b3]
  rw [if_neg (by rw [decide_eq_true_eq]; exact b3), if_neg b3]
  by_cases k2 : kind = wNeed
  ·rw [if_pos (decide_eq_true k2), if_pos k2, pnumber_t F behind (by omega)]
   rfl
  rw [if_neg (by rw [decide_eq_true_eq]; exact k2), if_neg k2]
  by_cases k3 : kind = wCall
  ·rw [if_pos (decide_eq_true k3), if_pos k3]
  rw [if_neg (by rw [decide_eq_true_eq]; exact k3), if_neg k3]
  by_cases k4 : kind = wEnd
  ·rw [if_pos (decide_eq_true k4), if_pos k4, pnumber_t F one (by omega)]
   rfl
  rw [if_neg (by rw [decide_eq_true_eq]; exact k4), if_neg k4]
theorem idx59 (x : By) : decide (Lib.indexByte x 59 < 0) = x.all (fun c => c != 59) := by
 have hg := Lib.indexByte_ge x 59
 by_cases h : Lib.indexByte x 59 < 0
 ·rw [decide_eq_true h]
  have hm : Lib.indexByte x 59 = -1 := by omega
  symm
  rw [List.all_eq_true]
  intro c hc
  obtain ⟨k, hk⟩ := List.getElem?_of_mem hc
  have := Lib.indexByte_none hm k
  rw [bne_iff_ne]
  rintro rfl
  exact this hk
 ·rw [decide_eq_false h]
  obtain ⟨o, ho⟩ : ∃ o : Nat, Lib.indexByte x 59 = o := ⟨(Lib.indexByte x 59).toNat, by omega⟩
  have h1 := (Lib.indexByte_some ho).1
  symm
  rw [List.all_eq_false]
  exact ⟨59, List.mem_of_getElem? h1, by decide⟩
theorem ptext_t (x : By) (hx : x.length ≤ 1000) : Tends (fun F => M_prog_text F x) (textG x) := by
 unfold M_prog_text textG
 have hi : ∀ F, M_strings_IndexByte F (x, 59) = some (Lib.indexByte x 59) := fun F => rfl
 have h9 := idx59 x
 by_cases h : Lib.indexByte x 59 < 0
 ·rw [decide_eq_true h] at h9
  rw [← h9, Bool.true_and]
  refine Tends.bind (r := ((checkT x, ()) : Bool × Unit)) (Tends.bind (.of hi) (Tends.pos (decide_eq_true h) (Tends.bind (check_v x hx) (.ret _)))) (.ret _)
 ·rw [decide_eq_false h] at h9
  rw [← h9, Bool.false_and]
  refine Tends.bind (r := ((false, ()) : Bool × Unit)) (Tends.bind (.of hi) (Tends.neg (by rw [decide_eq_true_eq]; exact h) (.ret _))) (.ret _)
def bndP (p : PhT) : Prop := p.2.1.length ≤ 1000 ∧ p.2.2.2.1.length ≤ 1000
theorem right_t (p : PhT) (hp : bndP p) : Tends (fun F => M_prog_right F p) (rightG p) := by
 obtain ⟨k, nm, n, t, u⟩ := p
 obtain ⟨hn, ht⟩ := hp
 simp only at hn ht
 unfold M_prog_right rightG
 simp only
 by_cases k1 : k = 1
 ·rw [if_pos k1]
  refine Tends.pos (decide_eq_true k1) (.of fun F => ?_)
  by_cases c1 : 1 ≤ n
  ·by_cases c2 : n ≤ 80
   ·have hlen : nm.length + t.length ≤ 9223372036854775807 := by omega
    rw [if_pos (decide_eq_true c1)]
    simp only [Option.bind_some, decide_eq_true c2, if_true, decide_eq_true hlen]
    by_cases c3 : nm = [] <;> by_cases c4 : t = [] <;> simp [c1, c3, c4]
   ·simp [c1, c2]
  ·simp [c1]
 rw [if_neg k1]
 refine Tends.neg (by rw [decide_eq_true_eq]; exact k1) ?_
 by_cases k2 : k = 2
 ·rw [if_pos k2]
  refine Tends.pos (decide_eq_true k2) (.of fun F => ?_)
  simp only [name_eq]
  by_cases c1 : 1 ≤ n
  ·by_cases c2 : n ≤ 1073741824
   ·cases hnm : nmP nm <;> simp [c1, c2, hnm]
   ·simp [c1, c2]
  ·simp [c1]
 rw [if_neg k2]
 refine Tends.neg (by rw [decide_eq_true_eq]; exact k2) ?_
 by_cases k3 : k = 3
 ·rw [if_pos k3]
  refine Tends.pos (decide_eq_true k3) ?_
  refine Tends.bind (r := (((), decide (n = 0) && nmP nm, (k, nm, n, t, ()), ()) : Unit × Bool × PhT × Unit)) (.of fun F => by
   simp only [name_eq]
   by_cases c1 : n = 0 <;> simp [c1]) ?_
  refine Tends.bind (r := (((decide (n = 0) && nmP nm) && textG t, ()) : Bool × Unit)) ?_ (.ret _)
  cases hb : (decide (n = 0) && nmP nm) with
  | true => exact Tends.pos rfl (Tends.bind (ptext_t t ht) (.ret _))
  | false => exact Tends.neg Bool.false_ne_true (.ret _)
 rw [if_neg k3]
 refine Tends.neg (by rw [decide_eq_true_eq]; exact k3) ?_
 by_cases k4 : k = 4
 ·rw [if_pos k4]
  refine Tends.pos (decide_eq_true k4) ?_
  refine Tends.bind (r := (((), decide (n = 200) || decide (n = 201), (k, nm, n, t, ()), ()) : Unit × Bool × PhT × Unit)) (.of fun F => by
   by_cases c1 : n = 200 <;> simp [c1]) ?_
  refine Tends.bind (r := (((), (decide (n = 200) || decide (n = 201)) && decide (nm = []), (k, nm, n, t, ()), ()) : Unit × Bool × PhT × Unit)) (.of fun F => by
   cases hb : (decide (n = 200) || decide (n = 201)) <;> simp [hb]) ?_
  refine Tends.bind (r := ((((decide (n = 200) || decide (n = 201)) && decide (nm = [])) && textG t, ()) : Bool × Unit)) ?_ (.ret _)
  cases hb : ((decide (n = 200) || decide (n = 201)) && decide (nm = [])) with
  | true => exact Tends.pos rfl (Tends.bind (ptext_t t ht) (.ret _))
  | false => exact Tends.neg Bool.false_ne_true (.ret _)
 ·rw [if_neg k4]
  exact Tends.neg (by rw [decide_eq_true_eq]; exact k4) (.ret _)
theorem drop_nil_iff {α : Type} (l : List α) (i : Nat) (h : i < l.length) : (l.drop (i + 1) = []) ↔ i = l.length - 1 := by
 rw [List.drop_eq_nil_iff]
 omega
theorem pmay_loop (l : List PhT) (hl : l.length ≤ 1000000) (hb : ∀ p ∈ l, bndP p) : ∀ (n i : Nat), i + n = l.length → TendsL M_prog_May_l0 (l, l, (l.length : Int), (i : Int), ()) (if mayL (l.drop i) = true then .inl () else .inr (false, ()))
 | 0, i, h => by
  refine TendsL.fin (.of fun F => ?_)
  unfold M_prog_May_l0
  rw [if_neg (by rw [decide_eq_true_eq]; simp only; omega), List.drop_eq_nil_of_le (by omega)]
  rfl
 | n + 1, i, h => by
  have hi : i < l.length := by omega
  have hx : idx l (i : Int) = some l[i] := idx_at _ _ _ (List.getElem?_eq_getElem hi)
  have hw : IntKind.i64.wrap ((i : Int) + 1) = ((i + 1 : Nat) : Int) := by rw [wrap64 _ (by omega) (by omega)]; omega
  have hw1 : IntKind.i64.wrap ((l.length : Int) - 1) = ((l.length - 1 : Nat) : Int) := by rw [wrap64 _ (by omega) (by omega)]; omega
  have ih := pmay_loop l hl hb n (i + 1) (by omega)
  have hr := right_t l[i] (hb _ (List.getElem_mem hi))
  have hd := drop_nil_iff l i hi
  rw [List.drop_eq_getElem_cons hi]
  generalize l[i] = p at *
  have hk : decide (l.drop (i + 1) = []) = decide ((i : Int) = ((l.length - 1 : Nat) : Int)) := by
   rw [Bool.eq_iff_iff, decide_eq_true_eq, decide_eq_true_eq, hd]; omega
  have e : mayL (p :: l.drop (i + 1)) = (rightG p && (decide (p.1 = 4) == decide ((i : Int) = ((l.length - 1 : Nat) : Int))) && mayL (l.drop (i + 1))) := by rw [← hk]; rfl
  rw [e]
  have hbody : Tends (fun F => M_prog_May_l0 F (l, l, (l.length : Int), (i : Int), ())) (if (rightG p && (decide (p.1 = 4) == decide ((i : Int) = ((l.length - 1 : Nat) : Int)))) = true then .inl (l, l, (l.length : Int), ((i + 1 : Nat) : Int), ()) else .inr (.inr (false, ()))) := by
   unfold M_prog_May_l0
   refine Tends.pos (by rw [decide_eq_true_eq]; simp only; omega) ?_
   refine Tends.bind (.of fun F => hx) ?_
   refine Tends.bind (r := ((l, l, (l.length : Int), (i : Int), !(rightG p && (decide (p.1 = 4) == decide ((i : Int) = ((l.length - 1 : Nat) : Int)))), ()) : List PhT × List PhT × Int × Int × Bool × Unit)) (Tends.bind hr ?_) ?_
   ·cases hrp : rightG p with
    | true => exact .of fun F => by simp [hw1]
    | false => exact .of fun F => by simp
   ·cases hrp : (rightG p && (decide (p.1 = 4) == decide ((i : Int) = ((l.length - 1 : Nat) : Int)))) with
    | true => exact Tends.neg (by simp) (.of fun F => by simp [hw])
    | false => exact Tends.pos (by simp) (.of fun F => by simp)
  cases hrp : (rightG p && (decide (p.1 = 4) == decide ((i : Int) = ((l.length - 1 : Nat) : Int)))) with
  | true =>
   rw [hrp, if_pos rfl] at hbody
   rw [Bool.true_and]
   exact TendsL.step hbody ih
  | false =>
   rw [hrp, if_neg Bool.false_ne_true] at hbody
   rw [Bool.false_and, if_neg Bool.false_ne_true]
   exact TendsL.fin hbody
theorem pmay_t (l : List PhT) (hl : l.length ≤ 1000000) (hb : ∀ p ∈ l, bndP p) : Tends (fun F => M_prog_May F l) (mayG l) := by
 unfold M_prog_May mayG
 refine Tends.bind (r := ((l, !(decide (1 ≤ l.length) && decide (l.length ≤ 5)), ()) : List PhT × Bool × Unit)) (.of fun F => ?_) ?_
 ·by_cases h0 : l.length = 0
  ·rw [if_neg (by rw [decide_eq_true (by omega)]; decide), decide_eq_false (by omega)]
   rfl
  ·rw [if_pos (decide_eq_false (by omega)), decide_eq_true (by omega : 1 ≤ l.length), Bool.true_and]
   by_cases h5 : l.length ≤ 5
   ·rw [decide_eq_false (by omega), decide_eq_true h5]; rfl
   ·rw [decide_eq_true (by omega), decide_eq_false h5]; rfl
 cases hc : (decide (1 ≤ l.length) && decide (l.length ≤ 5)) with
 | false => exact Tends.pos rfl (.ret _)
 | true =>
  refine Tends.neg (by simp) ?_
  have h := pmay_loop l hl hb l.length 0 (by omega)
  rw [List.drop_zero] at h
  refine Tends.bind h.run ?_
  rw [Bool.true_and]
  cases mayL l <;> exact .ret _
end Go.Vm
/- Programs: what the program prints and parses is the plain one. No condition but on lengths. -/
namespace Go.Vm
open Go.Proofs
open Go.Lib (decDigits itoa)
set_option linter.unusedVariables false
set_option linter.unusedSimpArgs false
theorem nm_len {s : By} (h : nmP s = true) : s.length ≤ 12 := by
 unfold nmP at h
 simp only [Bool.and_eq_true, decide_eq_true_eq] at h
 exact h.2
theorem textG_len {s : By} (h : textG s = true) : s.length ≤ 60 := by
 unfold textG checkT at h
 simp only [Bool.and_eq_true, decide_eq_true_eq] at h
 exact h.2.1
theorem small_itoa (n : Nat) (h : n ≤ 1073741824) : (itoa (n : Int)).length ≤ 10 := (itoa_len n 10 (by decide) (by omega)).1
theorem tailG_len (s : By) : (tailG s).length ≤ s.length + 1 := by
 unfold tailG
 split
 ·exact Nat.zero_le _
 ·rw [List.length_cons]; omega
theorem text_len_ok {p : PhT} (h : rightG p = true) : (phText p).length ≤ 100 := by
 rcases right_cases h with ⟨n, rfl, h1, h2⟩ | ⟨nm, n, rfl, h3, h1, h2⟩ | ⟨nm, t, rfl, h2, h3⟩ | ⟨n, t, rfl, h1, h3⟩
 ·have := small_itoa n (by omega)
  show (wOnly ++ 32 :: itoa (n : Int)).length ≤ 100
  simp only [List.length_append, List.length_cons, List.length_nil]
  omega
 ·have := small_itoa n h2
  have := nm_len h3
  show (wNeed ++ 32 :: (nm ++ 32 :: itoa (n : Int))).length ≤ 100
  simp only [List.length_append, List.length_cons, List.length_nil]
  omega
 ·have := nm_len h2
  have := textG_len h3
  have := tailG_len t
  show (wCall ++ 32 :: (nm ++ tailG t)).length ≤ 100
  simp only [List.length_append, List.length_cons, List.length_nil]
  omega
 ·have := small_itoa n (by omega)
  have := textG_len h3
  have := tailG_len t
  show (wEnd ++ 32 :: (itoa (n : Int) ++ tailG t)).length ≤ 100
  simp only [List.length_append, List.length_cons, List.length_nil]
  omega
theorem rest_hit (t : By) (r : List By) : restG ((32 :: t) :: r) = (restG r).map (readG t :: ·) := rfl
theorem rest_miss (x : By) (r : List By) (h : ∀ t, x ≠ 32 :: t) : restG (x :: r) = none := by
 unfold restG
 split
 ·exact absurd rfl (h _)
 ·rfl
abbrev PaR := Unit × List PhT × Unit ⊕ Unit × Int × List PhT × Unit
def paR (out : List PhT) : Option (List PhT) → PaR
 | some l => .inl ((), out ++ l, ())
 | none => .inr ((), 3, [], ())
theorem pparse_loop (xs : List By) (hn : xs.length ≤ 1000000) (hx : ∀ x ∈ xs, x.length ≤ 100000) : ∀ (n i : Nat) (out : List PhT), i + n = xs.length → out.length = i → 1 ≤ i → TendsL M_prog_Parse_l0 ((), xs, (xs.length : Int), (i : Int), out, ()) (paR out (restG (xs.drop i)))
 | 0, i, out, h, ho, h1 => by
  refine TendsL.fin (.of fun F => ?_)
  unfold M_prog_Parse_l0
  rw [if_neg (by rw [decide_eq_true_eq]; simp only; omega), List.drop_eq_nil_of_le (by omega)]
  show some (Sum.inr (Sum.inl ((), out, ()))) = some (Sum.inr (Sum.inl ((), out ++ [], ())))
  rw [List.append_nil]
 | n + 1, i, out, h, ho, h1 => by
  have hi : i < xs.length := by omega
  have hx0 : idx xs (i : Int) = some xs[i] := idx_at _ _ _ (List.getElem?_eq_getElem hi)
  have hw : IntKind.i64.wrap ((i : Int) + 1) = ((i + 1 : Nat) : Int) := by rw [wrap64 _ (by omega) (by omega)]; omega
  have hxl := hx xs[i] (List.getElem_mem hi)
  have hsb : sub ([59, 32] : By) 1 2 = some [32] := rfl
  rw [List.drop_eq_getElem_cons hi]
  generalize xs[i] = x at *
  by_cases hc : ∃ t, x = 32 :: t
  ·obtain ⟨t, rfl⟩ := hc
   rw [List.length_cons] at hxl
   have ih := pparse_loop xs hn hx n (i + 1) (out ++ [readG t]) (by omega) (by rw [List.length_append, List.length_singleton]; omega) (by omega)
   have e : paR out (restG ((32 :: t) :: xs.drop (i + 1))) = paR (out ++ [readG t]) (restG (xs.drop (i + 1))) := by
    rw [rest_hit]
    cases restG (xs.drop (i + 1)) with
    | none => rfl
    | some l => show Sum.inl ((), out ++ (readG t :: l), ()) = Sum.inl ((), (out ++ [readG t]) ++ l, ()); rw [List.append_assoc]; rfl
   rw [e]
   refine TendsL.step (.of fun F => ?_) ih
   unfold M_prog_Parse_l0
   rw [if_pos (by rw [decide_eq_true_eq]; simp only; omega)]
   simp only [hx0, Option.bind_some]
   rw [if_pos (by rw [decide_eq_true_eq]; omega)]
   simp only [hsb, Option.bind_some, pre_hit F t (by omega), Bool.not_true, Bool.false_eq_true, if_false, sumC_inl, read_eq F t (by omega)]
   rw [if_pos (by rw [decide_eq_true_eq]; simp only [List.length_singleton]; omega), hw]
  ·have hm : ∀ t, x ≠ 32 :: t := fun t ht => hc ⟨t, ht⟩
   rw [rest_miss x _ hm]
   refine TendsL.fin (.of fun F => ?_)
   unfold M_prog_Parse_l0
   rw [if_pos (by rw [decide_eq_true_eq]; simp only; omega)]
   simp only [hx0, Option.bind_some]
   rw [if_pos (by rw [decide_eq_true_eq]; omega)]
   simp only [hsb, Option.bind_some, pre_miss F x hm, Bool.not_false, if_true, sumC_inr]
   rfl
theorem pread_bnd (x : By) (h : x.length ≤ 1000) : bndP (readG x) := by
 have h1 := cut_len x [32]
 have h2 := cut_len (Lib.cut x [32]).2.1 [32]
 unfold readG
 split
 ·exact ⟨Nat.zero_le _, Nat.zero_le _⟩
 split
 ·exact ⟨Nat.zero_le _, Nat.zero_le _⟩
 split
 ·exact ⟨Nat.zero_le _, Nat.zero_le _⟩
 split
 ·exact ⟨by simp only; omega, Nat.zero_le _⟩
 split
 ·exact ⟨by simp only; omega, by simp only; omega⟩
 split
 ·exact ⟨Nat.zero_le _, by simp only; omega⟩
 ·exact ⟨Nat.zero_le _, Nat.zero_le _⟩
theorem rest_bnd : ∀ (xs : List By) (l : List PhT), (∀ x ∈ xs, x.length ≤ 1000) → restG xs = some l → l.length = xs.length ∧ ∀ p ∈ l, bndP p
 | [], l, hx, h => by cases h; exact ⟨rfl, fun p hp => by cases hp⟩
 | x :: xs, l, hx, h => by
  by_cases hc : ∃ t, x = 32 :: t
  ·obtain ⟨t, rfl⟩ := hc
   rw [rest_hit] at h
   obtain ⟨l', h1, rfl⟩ := Option.map_eq_some_iff.1 h
   obtain ⟨i1, i2⟩ := rest_bnd xs l' (fun y hy => hx y (List.mem_cons_of_mem _ hy)) h1
   have h2 := hx (32 :: t) (List.mem_cons_self ..)
   rw [List.length_cons] at h2
   refine ⟨by rw [List.length_cons, List.length_cons, i1], fun p hp => ?_⟩
   rcases List.mem_cons.1 hp with rfl | hp
   ·exact pread_bnd t (by omega)
   ·exact i2 p hp
  ·rw [rest_miss x xs fun t ht => hc ⟨t, ht⟩] at h
   cases h
theorem pparse_t (s : By) (hs : s.length ≤ 1000) : Tends (fun F => M_prog_Parse F s) (parseT s) := by
 obtain ⟨c1, c2⟩ := splC_len 59 s
 have hsp : ∀ F, M_strings_Split F (s, [59]) = some (splC 59 s) := by
  intro F
  unfold M_strings_Split MSplit
  rw [if_pos (decide_eq_true (by simp only; omega)), if_pos (by rfl), split_splC]
 unfold M_prog_Parse parseT parsG
 refine Tends.bind (.of hsp) ?_
 cases hx : splC 59 s with
 | nil => exact absurd hx (splC_ne 59 s)
 | cons x xs =>
  rw [hx] at c1 c2
  rw [List.length_cons] at c1
  have hxl := c2 x (List.mem_cons_self ..)
  have hw : IntKind.i64.wrap ((0 : Int) + 1) = ((1 : Nat) : Int) := by rw [wrap64 _ (by omega) (by omega)]; rfl
  have h := pparse_loop (x :: xs) (by rw [List.length_cons]; omega) (fun y hy => by have := c2 y hy; omega) xs.length 1 [readG x] (by rw [List.length_cons]; omega) rfl (Nat.le_refl _)
  have hl : TendsL M_prog_Parse_l0 ((), x :: xs, ((x :: xs).length : Int), 0, [], ()) (paR [readG x] (restG xs)) := by
   refine TendsL.step (.of fun F => ?_) h
   unfold M_prog_Parse_l0
   rw [if_pos (by rw [decide_eq_true_eq]; simp only [List.length_cons]; omega)]
   have hx0 : idx (x :: xs) 0 = some x := idx_at _ 0 _ rfl
   simp only [hx0, Option.bind_some]
   rw [if_neg (by rw [decide_eq_true_eq]; simp only [List.length_nil]; omega)]
   simp only [Option.bind_some, sumC_inl, read_eq F x (by omega)]
   rw [if_pos (by rw [decide_eq_true_eq]; simp only [List.length_nil, List.length_singleton]; omega), hw]
   rfl
  refine Tends.bind hl.run ?_
  simp only
  cases hr : restG xs with
  | none => exact .ret _
  | some l =>
   obtain ⟨b1, b2⟩ := rest_bnd xs l (fun y hy => by have := c2 y (List.mem_cons_of_mem _ hy); omega) hr
   have hm := pmay_t (readG x :: l) (by rw [List.length_cons]; omega) fun p hp => by
    rcases List.mem_cons.1 hp with rfl | hp
    ·exact pread_bnd x (by omega)
    ·exact b2 p hp
   show Tends _ (if mayG (readG x :: l) = true then (readG x :: l, 0) else ([], 3))
   refine Tends.bind hm ?_
   by_cases hmm : mayG (readG x :: l) = true
   ·rw [if_pos hmm, hmm]
    exact Tends.neg (by decide) (.ret _)
   ·have hmm' : mayG (readG x :: l) = false := by simpa using hmm
    rw [if_neg hmm, hmm']
    exact Tends.pos rfl (.ret _)
end Go.Vm
/- Programs: the document's functions are the plain ones. No condition but on lengths. -/
namespace Go.Vm
open Go.Proofs
open Go.Lib (decDigits itoa)
set_option linter.unusedVariables false
set_option linter.unusedSimpArgs false
/-! ### phases -/
theorem rtext_loop (x : By) (hx : x.length ≤ 1000) : ∀ (n i : Nat), i + n = x.length → TendsL M_conciergeref23_text_l0 (x, (i : Int), ()) (if (x.drop i).all (fun c => c != 59) = true then .inl (x, ()) else .inr (false, ()))
 | 0, i, h => by
  refine TendsL.fin (.of fun F => ?_)
  unfold M_conciergeref23_text_l0
  rw [if_neg (by rw [decide_eq_true_eq]; simp only; omega), List.drop_eq_nil_of_le (by omega)]
  rfl
 | n + 1, i, h => by
  have hi : i < x.length := by omega
  have hx0 : idx x (i : Int) = some x[i] := idx_at _ _ _ (List.getElem?_eq_getElem hi)
  have hw : IntKind.i64.wrap ((i : Int) + 1) = ((i + 1 : Nat) : Int) := by rw [wrap64 _ (by omega) (by omega)]; omega
  have ih := rtext_loop x hx n (i + 1) (by omega)
  rw [List.drop_eq_getElem_cons hi, List.all_cons]
  generalize x[i] = c at *
  have n59 : ((c.toNat : Int) = 59) = (c = 59) := nvB c 59
  by_cases hc : c = 59
  ·have e : (c != 59) = false := by rw [hc]; rfl
   rw [e, Bool.false_and]
   refine TendsL.fin (.of fun F => ?_)
   unfold M_conciergeref23_text_l0
   rw [if_pos (by rw [decide_eq_true_eq]; simp only; omega)]
   simp only [hx0, Option.bind_some, n59, decide_eq_true hc]
   rfl
  ·have e : (c != 59) = true := by rw [bne_iff_ne]; exact hc
   rw [e, Bool.true_and]
   refine TendsL.step (.of fun F => ?_) ih
   unfold M_conciergeref23_text_l0
   rw [if_pos (by rw [decide_eq_true_eq]; simp only; omega)]
   simp only [hx0, Option.bind_some, n59, decide_eq_false hc, Bool.false_eq_true, if_false, hw]
theorem rtext_t (x : By) (hx : x.length ≤ 1000) : Tends (fun F => M_conciergeref23_text F x) (textG x) := by
 unfold M_conciergeref23_text textG
 have h := rtext_loop x hx x.length 0 (by omega)
 rw [List.drop_zero] at h
 refine Tends.bind h.run ?_
 by_cases ha : x.all (fun c => c != 59) = true
 ·rw [if_pos ha, ha, Bool.true_and]
  exact Tends.bind (check22_t x hx) (.ret _)
 ·have ha' : x.all (fun c => c != 59) = false := by simpa using ha
  rw [if_neg ha, ha', Bool.false_and]
  exact .ret _
theorem rphase_t (p : PhT) (hp : bndP p) : Tends (fun F => M_conciergeref23_phase F p) (rightG p) := by
 obtain ⟨k, nm, n, t, u⟩ := p
 obtain ⟨hn, ht⟩ := hp
 simp only at hn ht
 unfold M_conciergeref23_phase rightG
 simp only
 by_cases k1 : k = 1
 ·rw [if_pos k1]
  refine Tends.pos (decide_eq_true k1) (.of fun F => ?_)
  by_cases c1 : 1 ≤ n
  ·by_cases c2 : n ≤ 80
   ·by_cases c3 : nm = [] <;> by_cases c4 : t = [] <;> simp [c1, c2, c3, c4]
   ·simp [c1, c2]
  ·simp [c1]
 rw [if_neg k1]
 refine Tends.neg (by rw [decide_eq_true_eq]; exact k1) ?_
 by_cases k2 : k = 2
 ·rw [if_pos k2]
  refine Tends.pos (decide_eq_true k2) ?_
  refine Tends.bind (r := (((), decide (1 ≤ n) && decide (n ≤ 1073741824), (k, nm, n, t, ()), ()) : Unit × Bool × PhT × Unit)) (.of fun F => by
   by_cases c1 : 1 ≤ n <;> simp [c1]) ?_
  refine Tends.bind (r := (((), (decide (1 ≤ n) && decide (n ≤ 1073741824)) && nmP nm, (k, nm, n, t, ()), ()) : Unit × Bool × PhT × Unit)) ?_ ?_
  ·cases hb : (decide (1 ≤ n) && decide (n ≤ 1073741824)) with
   | true => exact Tends.pos rfl (Tends.bind (name22_t nm (by omega)) (.ret _))
   | false => exact Tends.neg Bool.false_ne_true (.ret _)
  ·refine .of fun F => ?_
   cases hb : ((decide (1 ≤ n) && decide (n ≤ 1073741824)) && nmP nm) <;> simp
 rw [if_neg k2]
 refine Tends.neg (by rw [decide_eq_true_eq]; exact k2) ?_
 by_cases k3 : k = 3
 ·rw [if_pos k3]
  refine Tends.pos (decide_eq_true k3) ?_
  refine Tends.bind (r := (((), decide (n = 0) && nmP nm, (k, nm, n, t, ()), ()) : Unit × Bool × PhT × Unit)) ?_ ?_
  ·by_cases c1 : n = 0
   ·rw [decide_eq_true c1, Bool.true_and]
    exact Tends.pos rfl (Tends.bind (name22_t nm (by omega)) (.ret _))
   ·rw [decide_eq_false c1, Bool.false_and]
    exact Tends.neg Bool.false_ne_true (.ret _)
  refine Tends.bind (r := (((decide (n = 0) && nmP nm) && textG t, ()) : Bool × Unit)) ?_ (.ret _)
  cases hb : (decide (n = 0) && nmP nm) with
  | true => exact Tends.pos rfl (Tends.bind (rtext_t t ht) (.ret _))
  | false => exact Tends.neg Bool.false_ne_true (.ret _)
 rw [if_neg k3]
 refine Tends.neg (by rw [decide_eq_true_eq]; exact k3) ?_
 by_cases k4 : k = 4
 ·rw [if_pos k4]
  refine Tends.bind (r := (((), decide (n = 200) || decide (n = 201), (k, nm, n, t, ()), ()) : Unit × Bool × PhT × Unit)) (Tends.pos (decide_eq_true k4) (.of fun F => by
   by_cases c1 : n = 200 <;> simp [c1])) ?_
  refine Tends.bind (r := (((), (decide (n = 200) || decide (n = 201)) && decide (nm = []), (k, nm, n, t, ()), ()) : Unit × Bool × PhT × Unit)) (.of fun F => by
   cases hb : (decide (n = 200) || decide (n = 201)) <;> simp [hb]) ?_
  refine Tends.bind (r := ((((decide (n = 200) || decide (n = 201)) && decide (nm = [])) && textG t, ()) : Bool × Unit)) ?_ (.ret _)
  cases hb : ((decide (n = 200) || decide (n = 201)) && decide (nm = [])) with
  | true => exact Tends.pos rfl (Tends.bind (rtext_t t ht) (.ret _))
  | false => exact Tends.neg Bool.false_ne_true (.ret _)
 ·rw [if_neg k4]
  refine Tends.bind (r := (((), false, (k, nm, n, t, ()), ()) : Unit × Bool × PhT × Unit)) (Tends.neg (by rw [decide_eq_true_eq]; exact k4) (.ret _)) (.of fun F => rfl)
theorem rmay_loop (l : List PhT) (hl : l.length ≤ 1000000) (hb : ∀ p ∈ l, bndP p) : ∀ (n i : Nat), i + n = l.length → TendsL M_conciergeref23_May_l0 (l, (i : Int), ()) (if mayL (l.drop i) = true then .inl () else .inr (false, ()))
 | 0, i, h => by
  refine TendsL.fin (.of fun F => ?_)
  unfold M_conciergeref23_May_l0
  rw [if_neg (by rw [decide_eq_true_eq]; simp only; omega), List.drop_eq_nil_of_le (by omega)]
  rfl
 | n + 1, i, h => by
  have hi : i < l.length := by omega
  have hx : idx l (i : Int) = some l[i] := idx_at _ _ _ (List.getElem?_eq_getElem hi)
  have hw : IntKind.i64.wrap ((i : Int) + 1) = ((i + 1 : Nat) : Int) := by rw [wrap64 _ (by omega) (by omega)]; omega
  have hw1 : IntKind.i64.wrap ((l.length : Int) - 1) = ((l.length - 1 : Nat) : Int) := by rw [wrap64 _ (by omega) (by omega)]; omega
  have ih := rmay_loop l hl hb n (i + 1) (by omega)
  have hr := rphase_t l[i] (hb _ (List.getElem_mem hi))
  have hd := drop_nil_iff l i hi
  rw [List.drop_eq_getElem_cons hi]
  generalize l[i] = p at *
  have hk : decide (l.drop (i + 1) = []) = decide ((i : Int) = ((l.length - 1 : Nat) : Int)) := by
   rw [Bool.eq_iff_iff, decide_eq_true_eq, decide_eq_true_eq, hd]; omega
  have e : mayL (p :: l.drop (i + 1)) = (rightG p && (decide (p.1 = 4) == decide ((i : Int) = ((l.length - 1 : Nat) : Int))) && mayL (l.drop (i + 1))) := by rw [← hk]; rfl
  rw [e]
  have hbody : Tends (fun F => M_conciergeref23_May_l0 F (l, (i : Int), ())) (if (rightG p && (decide (p.1 = 4) == decide ((i : Int) = ((l.length - 1 : Nat) : Int)))) = true then .inl (l, ((i + 1 : Nat) : Int), ()) else .inr (.inr (false, ()))) := by
   unfold M_conciergeref23_May_l0
   refine Tends.pos (by rw [decide_eq_true_eq]; simp only; omega) ?_
   refine Tends.bind (r := ((l, (i : Int), !(rightG p && (decide (p.1 = 4) == decide ((i : Int) = ((l.length - 1 : Nat) : Int)))), ()) : List PhT × Int × Bool × Unit)) (Tends.bind (.of fun F => hx) (Tends.bind hr ?_)) ?_
   ·cases hrp : rightG p with
    | true => exact .of fun F => by simp [hw1, hx]
    | false => exact .of fun F => by simp
   ·cases hrp : (rightG p && (decide (p.1 = 4) == decide ((i : Int) = ((l.length - 1 : Nat) : Int)))) with
    | true => exact Tends.neg (by simp) (.of fun F => by simp [hw])
    | false => exact Tends.pos (by simp) (.of fun F => by simp)
  cases hrp : (rightG p && (decide (p.1 = 4) == decide ((i : Int) = ((l.length - 1 : Nat) : Int)))) with
  | true =>
   rw [hrp, if_pos rfl] at hbody
   rw [Bool.true_and]
   exact TendsL.step hbody ih
  | false =>
   rw [hrp, if_neg Bool.false_ne_true] at hbody
   rw [Bool.false_and, if_neg Bool.false_ne_true]
   exact TendsL.fin hbody
theorem rmay_t (l : List PhT) (hl : l.length ≤ 1000000) (hb : ∀ p ∈ l, bndP p) : Tends (fun F => M_conciergeref23_May F l) (mayG l) := by
 unfold M_conciergeref23_May mayG
 refine Tends.bind (r := ((l, !(decide (1 ≤ l.length) && decide (l.length ≤ 5)), ()) : List PhT × Bool × Unit)) (.of fun F => ?_) ?_
 ·by_cases h0 : l.length = 0
  ·rw [if_neg (by rw [decide_eq_true (by omega)]; decide), decide_eq_false (by omega)]
   rfl
  ·rw [if_pos (decide_eq_false (by omega)), decide_eq_true (by omega : 1 ≤ l.length), Bool.true_and]
   by_cases h5 : l.length ≤ 5
   ·rw [decide_eq_false (by omega), decide_eq_true h5]; rfl
   ·rw [decide_eq_true (by omega), decide_eq_false h5]; rfl
 cases hc : (decide (1 ≤ l.length) && decide (l.length ≤ 5)) with
 | false => exact Tends.pos rfl (.ret _)
 | true =>
  refine Tends.neg (by simp) ?_
  have h := rmay_loop l hl hb l.length 0 (by omega)
  rw [List.drop_zero] at h
  refine Tends.bind h.run ?_
  rw [Bool.true_and]
  cases mayL l <;> exact .ret _
/-! ### texts -/
theorem behind_t (F : Nat) (x : By) (h : x.length ≤ 1000) : M_conciergeref23_behind F x = some (tailG x) := by
 unfold M_conciergeref23_behind tailG
 by_cases hx : x = []
 ·rw [if_pos (decide_eq_true hx), if_pos hx]
 ·rw [if_neg (by rw [decide_eq_true_eq]; exact hx), if_neg hx, if_pos (by rw [decide_eq_true_eq]; simp only [List.length_singleton]; omega)]
  rfl
theorem rtextof_t (p : PhT) (h : rightG p = true) : Tends (fun F => M_conciergeref23_Text F p) (phText p) := by
 have big : ∀ {a b : Nat}, a + b ≤ 100000 → decide (a + b ≤ 9223372036854775807) = true := fun h => decide_eq_true (by omega)
 rcases right_cases h with ⟨n, rfl, h1, h2⟩ | ⟨nm, n, rfl, h3, h1, h2⟩ | ⟨nm, t, rfl, h2, h3⟩ | ⟨n, t, rfl, h1, h3⟩
 ·have hd := decimal_t (n : Int) (by unfold okN; omega)
  have hl := small_itoa n (by omega)
  unfold M_conciergeref23_Text
  refine Tends.pos (by simp) (Tends.bind hd ?_)
  exact Tends.pos (big (by simp only [List.length_cons, List.length_nil]; omega)) (.of fun F => rfl)
 ·have hd := decimal_t (n : Int) (by unfold okN; omega)
  have hl := small_itoa n h2
  have hn := nm_len h3
  unfold M_conciergeref23_Text
  refine Tends.neg (by simp) (Tends.pos (by simp) ?_)
  refine Tends.bind (r := ((phText (2, nm, (n : Int), [], ()), ()) : By × Unit)) ?_ (.ret _)
  refine Tends.pos (big (by simp only [List.length_cons, List.length_nil]; omega)) ?_
  refine Tends.pos (big (by simp only [List.length_append, List.length_cons, List.length_nil]; omega)) ?_
  refine Tends.bind hd ?_
  refine Tends.pos (big (by simp only [List.length_append, List.length_cons, List.length_nil]; omega)) (.of fun F => ?_)
  show some ([110, 101, 101, 100, 32] ++ nm ++ [32] ++ itoa (n : Int), ()) = some (wNeed ++ 32 :: (nm ++ 32 :: itoa (n : Int)), ())
  simp [List.append_assoc]
 ·have hn := nm_len h2
  have ht := textG_len h3
  have htl := tailG_len t
  unfold M_conciergeref23_Text
  refine Tends.neg (by simp) (Tends.neg (by simp) (Tends.pos (by simp) ?_))
  refine Tends.bind (r := ((phText (3, nm, 0, t, ()), ()) : By × Unit)) ?_ (.ret _)
  refine Tends.pos (big (by simp only [List.length_cons, List.length_nil]; omega)) ?_
  refine Tends.bind (.of fun F => behind_t F t (by omega)) ?_
  refine Tends.pos (big (by simp only [List.length_append, List.length_cons, List.length_nil]; omega)) (.of fun F => ?_)
  show some ([99, 97, 108, 108, 32] ++ nm ++ tailG t, ()) = some (wCall ++ 32 :: (nm ++ tailG t), ())
  simp [List.append_assoc]
 ·have hd := decimal_t (n : Int) (by unfold okN; omega)
  have hl := small_itoa n (by omega)
  have ht := textG_len h3
  have htl := tailG_len t
  unfold M_conciergeref23_Text
  refine Tends.neg (by simp) (Tends.neg (by simp) (Tends.neg (by simp) ?_))
  refine Tends.bind (r := ((phText (4, [], (n : Int), t, ()), ()) : By × Unit)) ?_ (.ret _)
  refine Tends.bind hd ?_
  refine Tends.pos (big (by simp only [List.length_cons, List.length_nil]; omega)) ?_
  refine Tends.bind (.of fun F => behind_t F t (by omega)) ?_
  refine Tends.pos (big (by simp only [List.length_append, List.length_cons, List.length_nil]; omega)) (.of fun F => ?_)
  show some ([101, 110, 100, 32] ++ itoa (n : Int) ++ tailG t, ()) = some (wEnd ++ 32 :: (itoa (n : Int) ++ tailG t), ())
  simp [List.append_assoc]
theorem rprint_loop (l : List PhT) (hl : l.length ≤ 1000) (hr : ∀ p ∈ l, rightG p = true) : ∀ (n i : Nat) (out : By), i + n = l.length → 1 ≤ i → out.length ≤ 1000 * i → TendsL M_conciergeref23_Print_l0 (l, out, (i : Int), ()) (out ++ Lib.joinTail [59, 32] ((l.drop i).map phText), ())
 | 0, i, out, h, h1, ho => by
  refine TendsL.fin (.of fun F => ?_)
  unfold M_conciergeref23_Print_l0
  rw [if_neg (by rw [decide_eq_true_eq]; simp only; omega), List.drop_eq_nil_of_le (by omega)]
  show some (Sum.inr (out, ())) = some (Sum.inr (out ++ [], ()))
  rw [List.append_nil]
 | n + 1, i, out, h, h1, ho => by
  have hi : i < l.length := by omega
  have hx : idx l (i : Int) = some l[i] := idx_at _ _ _ (List.getElem?_eq_getElem hi)
  have hw : IntKind.i64.wrap ((i : Int) + 1) = ((i + 1 : Nat) : Int) := by rw [wrap64 _ (by omega) (by omega)]; omega
  have hr1 := hr l[i] (List.getElem_mem hi)
  rw [List.drop_eq_getElem_cons hi, List.map_cons]
  generalize l[i] = p at *
  have ht := rtextof_t p hr1
  have htl := text_len_ok hr1
  have ih := rprint_loop l hl hr n (i + 1) (out ++ [59, 32] ++ phText p) (by omega) (by omega) (by simp only [List.length_append, List.length_cons, List.length_nil]; omega)
  have e : out ++ Lib.joinTail [59, 32] (phText p :: (l.drop (i + 1)).map phText) = out ++ [59, 32] ++ phText p ++ Lib.joinTail [59, 32] ((l.drop (i + 1)).map phText) := by
   show out ++ ([59, 32] ++ phText p ++ Lib.joinTail [59, 32] ((l.drop (i + 1)).map phText)) = _
   simp only [List.append_assoc]
  rw [e]
  refine TendsL.step ?_ ih
  unfold M_conciergeref23_Print_l0
  refine Tends.pos (by rw [decide_eq_true_eq]; simp only; omega) ?_
  refine Tends.bind (r := ((l, out ++ [59, 32], (i : Int), ()) : List PhT × By × Int × Unit)) (Tends.pos (by rw [decide_eq_true_eq]; simp only; omega) (Tends.pos (by rw [decide_eq_true_eq]; simp only [List.length_cons, List.length_nil]; omega) (.ret _))) ?_
  refine Tends.bind (.of fun F => hx) ?_
  refine Tends.bind ht ?_
  refine Tends.pos (by rw [decide_eq_true_eq]; simp only [List.length_append, List.length_cons, List.length_nil]; omega) (.of fun F => ?_)
  simp only [hw]
theorem rprint_t (l : List PhT) (hl : l.length ≤ 1000) (hr : ∀ p ∈ l, rightG p = true) : Tends (fun F => M_conciergeref23_Print F l) (printG l) := by
 unfold M_conciergeref23_Print
 cases l with
 | nil =>
  have : TendsL M_conciergeref23_Print_l0 (([] : List PhT), ([] : By), 0, ()) (([] : By), ()) := TendsL.fin (.of fun F => rfl)
  exact Tends.bind this.run (.ret _)
 | cons p r =>
  rw [List.length_cons] at hl
  have hr1 := hr p (List.mem_cons_self ..)
  have ht := rtextof_t p hr1
  have htl := text_len_ok hr1
  have hw : IntKind.i64.wrap ((0 : Int) + 1) = ((1 : Nat) : Int) := by rw [wrap64 _ (by omega) (by omega)]; rfl
  have hx : idx (p :: r) 0 = some p := idx_at _ 0 _ rfl
  have h := rprint_loop (p :: r) (by rw [List.length_cons]; omega) hr r.length 1 (phText p) (by rw [List.length_cons]; omega) (Nat.le_refl _) (by omega)
  have hs : TendsL M_conciergeref23_Print_l0 (p :: r, ([] : By), 0, ()) (printG (p :: r), ()) := by
   rw [printG_cons]
   refine TendsL.step ?_ h
   unfold M_conciergeref23_Print_l0
   refine Tends.pos (by rw [decide_eq_true_eq]; simp only [List.length_cons]; omega) ?_
   refine Tends.bind (r := ((p :: r, [], 0, ()) : List PhT × By × Int × Unit)) (Tends.neg (by simp) (.ret _)) ?_
   refine Tends.bind (.of fun F => hx) ?_
   refine Tends.bind ht ?_
   refine Tends.pos (by rw [decide_eq_true_eq]; simp only [List.length_nil]; omega) (.of fun F => ?_)
   simp only [hw, List.nil_append]
  exact Tends.bind hs.run (.ret _)
end Go.Vm
