import Derived.Test.YtihpjgcbmipdbaaGreatDoorPg2
import Derived.Test.YtihpjgcbmipdbaaGreatDoorPh5
import Derived.Test.YtihpjgcbmipdbaaGreatDoorFprog2
import Derived.Test.YtihpjgcbmipdbaaGreatDoorPu1
import Derived.Test.YtihpjgcbmipdbaaGreatDoorPh1
/- Programs: printed and parsed, plainly; the document's parser on a printed one. No condition. -/
namespace Go.Vm
open Go.Lib (decDigits itoa)
set_option linter.unusedVariables false
set_option linter.unusedSimpArgs false
def printG (l : List PhT) : By := Lib.join (l.map phText) [59, 32]
def restG : List By → Option (List PhT)
 | [] => some []
 | x :: r => match x with
  | 32 :: t => (restG r).map (readG t :: ·)
  | _ => none
def parsG (s : By) : Option (List PhT) := match splC 59 s with
 | x :: r => (restG r).map (readG x :: ·)
 | [] => none
theorem join_tail (x : By) : ∀ r : List By, joinD 59 (x :: r.map (fun t => 32 :: t)) = x ++ Lib.joinTail [59, 32] r
 | [] => by show x = x ++ []; rw [List.append_nil]
 | t :: r => by
  rw [List.map_cons, joinD_cons 59 x (by simp), join_tail (32 :: t) r]
  show x ++ 59 :: ((32 :: t) ++ Lib.joinTail [59, 32] r) = x ++ ((59 :: 32 :: t) ++ Lib.joinTail [59, 32] r)
  rfl
theorem printG_cons (p : PhT) (r : List PhT) : printG (p :: r) = phText p ++ Lib.joinTail [59, 32] (r.map phText) := by
 unfold printG
 rw [List.map_cons, Lib.join_cons]
theorem tailG_no {d : UInt8} (hd : d ≠ 32) {t : By} (h : ∀ b ∈ t, b ≠ d) : ∀ b ∈ tailG t, b ≠ d := by
 unfold tailG
 split
 ·exact fun b hb => by cases hb
 ·intro b hb
  rcases List.mem_cons.1 hb with rfl | hb
  ·exact fun e => hd e.symm
  ·exact h b hb
theorem textG_no {t : By} (h : textG t = true) : ∀ b ∈ t, b ≠ 59 := by
 unfold textG at h
 rw [Bool.and_eq_true] at h
 intro b hb
 have := List.all_eq_true.1 h.1 b hb
 simpa using this
theorem app_no {d : UInt8} {a b : By} (ha : ∀ x ∈ a, x ≠ d) (hb : ∀ x ∈ b, x ≠ d) : ∀ x ∈ a ++ b, x ≠ d := fun x hx => (List.mem_append.1 hx).elim (ha x) (hb x)
theorem cons_no {d c : UInt8} {b : By} (hc : c ≠ d) (hb : ∀ x ∈ b, x ≠ d) : ∀ x ∈ c :: b, x ≠ d := fun x hx => (List.mem_cons.1 hx).elim (fun e => e ▸ hc) (hb x)
theorem text_no {p : PhT} (h : rightG p = true) : ∀ b ∈ phText p, b ≠ 59 := by
 rcases right_cases h with ⟨n, rfl, h1, h2⟩ | ⟨nm, n, rfl, h3, h1, h2⟩ | ⟨nm, t, rfl, h2, h3⟩ | ⟨n, t, rfl, h1, h3⟩
 ·exact app_no (a := wOnly) (by decide) (cons_no (by decide) fun b hb => (dig_bytes n b hb).2)
 ·exact app_no (a := wNeed) (by decide) (cons_no (by decide) (app_no (fun b hb => (nm_bytes h3 b hb).2) (cons_no (by decide) fun b hb => (dig_bytes n b hb).2)))
 ·exact app_no (a := wCall) (by decide) (cons_no (by decide) (app_no (fun b hb => (nm_bytes h2 b hb).2) (tailG_no (by decide) (textG_no h3))))
 ·exact app_no (a := wEnd) (by decide) (cons_no (by decide) (app_no (fun b hb => (dig_bytes n b hb).2) (tailG_no (by decide) (textG_no h3))))
theorem mayL_right : ∀ l : List PhT, mayL l = true → ∀ p ∈ l, rightG p = true
 | [], h, p, hp => by cases hp
 | q :: l, h, p, hp => by
  unfold mayL at h
  rw [Bool.and_eq_true, Bool.and_eq_true] at h
  rcases List.mem_cons.1 hp with rfl | hp
  ·exact h.1.1
  ·exact mayL_right l h.2 p hp
theorem may_right {l : List PhT} (h : mayG l = true) : (∀ p ∈ l, rightG p = true) ∧ 1 ≤ l.length ∧ l.length ≤ 5 := by
 unfold mayG at h
 simp only [Bool.and_eq_true, decide_eq_true_eq] at h
 exact ⟨mayL_right l h.2, h.1.1, h.1.2⟩
theorem rest_text : ∀ r : List PhT, (∀ p ∈ r, rightG p = true) → restG (r.map fun p => 32 :: phText p) = some r
 | [], h => rfl
 | p :: r, h => by
  rw [List.map_cons]
  show (restG (r.map fun p => 32 :: phText p)).map (readG (phText p) :: ·) = _
  rw [rest_text r fun q hq => h q (List.mem_cons_of_mem _ hq), (read_text p (h p (List.mem_cons_self ..))).1]
  rfl
theorem pars_print (l : List PhT) (h : mayG l = true) : parsG (printG l) = some l := by
 obtain ⟨h1, h2, h3⟩ := may_right h
 cases l with
 | nil => simp at h2
 | cons p r =>
  have e : printG (p :: r) = joinD 59 (phText p :: r.map fun p => 32 :: phText p) := by
   rw [printG_cons, ← join_tail, List.map_map]
   rfl
  have hs : splC 59 (joinD 59 (phText p :: r.map fun p => 32 :: phText p)) = phText p :: r.map fun p => 32 :: phText p := by
   refine splC_join _ (by simp) fun x hx => ?_
   rcases List.mem_cons.1 hx with rfl | hx
   ·exact text_no (h1 p (List.mem_cons_self ..))
   ·obtain ⟨q, hq, rfl⟩ := List.mem_map.1 hx
    exact cons_no (by decide) (text_no (h1 q (List.mem_cons_of_mem _ hq)))
  unfold parsG
  rw [e, hs]
  show (restG (r.map fun p => 32 :: phText p)).map (readG (phText p) :: ·) = _
  rw [rest_text r fun q hq => h1 q (List.mem_cons_of_mem _ hq), (read_text p (h1 p (List.mem_cons_self ..))).1]
  rfl
def parseT (s : By) : List PhT × Int := match parsG s with
 | some l => if mayG l = true then (l, 0) else ([], 3)
 | none => ([], 3)
theorem parseT_print (l : List PhT) (h : mayG l = true) : parseT (printG l) = (l, 0) := by
 unfold parseT
 rw [pars_print l h]
 exact if_pos h
end Go.Vm
/- Phrases: gaps; the wake; the law of checks. No condition but on lengths. -/
namespace Go.Vm
open Go.Proofs
open Go.Lib (decodeL decodeN decodeL_N decode_N decodeN_shape decodeL_le)
set_option linter.unusedVariables false
set_option linter.unusedSimpArgs false
theorem signs_ascii : ∀ s : By, (∀ b ∈ s, b.toNat < 128) → (signs s).map (·.1) = s.map fun b => (b.toNat : Int)
 | [], h => by rw [signs_nil]; rfl
 | c :: s, h => by
  rw [signs_one c (h c (List.mem_cons_self ..)), List.map_cons, List.map_cons, signs_ascii s fun b hb => h b (List.mem_cons_of_mem _ hb)]
abbrev wkB : By := [123, 34, 115, 117, 109, 34, 58, 53, 125]
theorem wk_all : allP wkB = .ok (.obj [([115, 117, 109], .int 5, ())]) := by kernel_rfl
theorem wk_five : allP [53] = .ok (.int 5) := by kernel_rfl
theorem itoa_5 : Go.Lib.itoa 5 = [53] := by unfold Go.Lib.itoa; rw [if_neg (by decide)]; exact Go.Lib.decDigits_one (by decide)
theorem wk_mem : memT wkB [115, 117, 109] = [53] := by
 have hv : vP wkB = .obj [([115, 117, 109], .int 5, ())] := by unfold vP; rw [wk_all]
 have h5 : vP [53] = .int 5 := by unfold vP; rw [wk_five]
 have hl : layP 7 (.int 5) = [53] := by rw [layP_B]; exact itoa_5
 have hf : firstM [115, 117, 109] [(([115, 117, 109], .int 5, ()) : Me)] = ([53], true) := by
  unfold firstM
  rw [if_pos rfl, hl]
 have hf2 : firstM [115, 117, 109] (objL (vP wkB)) = ([53], true) := by rw [hv]; exact hf
 unfold memT
 rw [hf2, if_pos rfl]
 show (if kindP (vP [53]) = 4 then textP (vP [53]) else [53]) = _
 rw [h5]
 exact if_neg (by decide)
end Go.Vm
/- Phrases: what the document fills is the plain text. No condition but on lengths. -/
namespace Go.Vm
open Go.Proofs
open Go.Lib (decodeL decodeN decodeL_N decode_N decodeN_shape decodeL_le)
set_option linter.unusedVariables false
set_option linter.unusedSimpArgs false
/-! ### members -/
theorem signs_okR : ∀ s : By, ∀ n ∈ (signs s).map (·.1), ∃ c : Nat, n = (c : Int) ∧ okR c := by
 refine signs_ind ?_ ?_
 ·rw [signs_nil]; intro n hn; cases hn
 ·intro l h ih n hn
  rw [signs_cons h, List.map_cons] at hn
  rcases List.mem_cons.1 hn with rfl | hn
  ·exact ⟨_, rfl, rune_ok l⟩
  ·exact ih n hn
end Go.Vm
/- Programs: what is to be done next, how many calls are ahead: plainly. No condition. -/
namespace Go.Vm
open Go.Proofs
set_option linter.unusedVariables false
set_option linter.unusedSimpArgs false
theorem mayL_at : ∀ (l : List PhT), mayL l = true → ∀ (i : Nat) (x : PhT), l[i]? = some x → rightG x = true ∧ (x.1 = 4 ↔ i + 1 = l.length)
 | [], _, i, x, h => by simp at h
 | p :: r, hm, i, x, h => by
  unfold mayL at hm
  rw [Bool.and_eq_true, Bool.and_eq_true, beq_iff_eq] at hm
  obtain ⟨⟨h1, h2⟩, h3⟩ := hm
  cases i with
  | zero =>
   have : p = x := by simpa using h
   subst this
   refine ⟨h1, ?_⟩
   rw [decide_eq_decide] at h2
   rw [h2, List.length_cons]
   cases r <;> simp
  | succ i =>
   have := mayL_at r h3 i x (by simpa using h)
   rw [List.length_cons]
   exact ⟨this.1, this.2.trans (by omega)⟩
theorem mayG_at {l : List PhT} (hm : mayG l = true) {i : Nat} {x : PhT} (h : l[i]? = some x) : rightG x = true ∧ (x.1 = 4 ↔ i + 1 = l.length) := by
 unfold mayG at hm
 rw [Bool.and_eq_true] at hm
 exact mayL_at l hm.2 i x h
/-! ### what is to be done next -/
abbrev DoT := Int × Int × By × Int × By × Int × Int × Int × By × By × Unit
abbrev zDo : DoT := (0, 0, [], 0, [], 0, 0, 0, [], [], ())
abbrev tRef : By := [114, 101, 102, 117, 115, 101, 100, 32]
abbrev EnT.pt (e : EnT) : Int := e.2.2.2.2.2.1
abbrev EnT.tk (e : EnT) : Int := e.2.2.2.2.1
abbrev EnT.ep (e : EnT) : Int := e.2.2.2.1
def onlyT (s : By) (n : Int) : Bool := decide (((signs s).length : Int) ≤ n) && ((signs s).map (·.1)).all fun x => decide (1 ≤ sortI x ∧ sortI x ≤ 3)
def needT (body name : By) (n : Int) : Bool := (firstM name (objL (vP body))).2 && (decide (kindP (vP (firstM name (objL (vP body))).1) = 3) && (decide (1 ≤ numV (vP (firstM name (objL (vP body))).1)) && decide (numV (vP (firstM name (objL (vP body))).1) ≤ n)))
def passD (ok : Bool) (why : By) : DoT := if ok = true then (1, 0, [], 0, [], 0, 0, 0, [], [], ()) else (2, 402, tRef ++ why, 0, [], 0, 0, 0, [], [], ())
def doT (x : PhT) (e : EnT) : DoT :=
 if x.1 = 1 then passD (onlyT e.body x.2.2.1) wOnly
 else if x.1 = 2 then passD (needT e.body x.2.1 x.2.2.1) (wNeed ++ 32 :: x.2.1)
 else if x.1 = 3 then (3, 0, [], e.1, e.key, e.ep, e.pt, e.tk, x.2.1, fillT x.2.2.2.1 e, ())
 else (2, x.2.2.1, fillT x.2.2.2.1 e, 0, [], 0, 0, 0, [], [], ())
def nextT (p : List PhT) (e : EnT) : DoT × Int :=
 if mayG p = false then (zDo, 1) else if e.pt < 0 ∨ (p.length : Int) ≤ e.pt then (zDo, 6) else
 match p[e.pt.toNat]? with
 | none => (zDo, 6)
 | some x => (doT x e, 0)
/-! ### calls -/
def callsN (p : List PhT) (n : Nat) : Nat := ((p.take n).filter fun x => decide (x.1 = 3)).length
def callsT (p : List PhT) (point : Int) : Int := (callsN p point.toNat : Nat)
theorem callsN_succ {p : List PhT} {n : Nat} {x : PhT} (h : p[n]? = some x) : callsN p (n + 1) = callsN p n + if x.1 = 3 then 1 else 0 := by
 unfold callsN
 rw [List.take_add_one, h, List.filter_append, List.length_append]
 congr 1
 by_cases c : x.1 = 3 <;> simp [c]
theorem callsN_le (p : List PhT) (n : Nat) : callsN p n ≤ p.length := by
 unfold callsN
 have h1 := List.length_filter_le (fun x : PhT => decide (x.1 = 3)) (p.take n)
 rw [List.length_take] at h1
 omega
theorem callsN_all {p : List PhT} {n : Nat} (h : p.length ≤ n) : callsN p n = callsN p p.length := by
 unfold callsN
 rw [List.take_of_length_le h, List.take_of_length_le (Nat.le_refl _)]
end Go.Vm
/- Signs of a text: how many, and whether all are of some sorts (cut out of the texts of sign). No condition but on lengths. -/
namespace Go.Vm
open Go.Lib (decodeL decodeN decodeL_N decode_N decodeN_shape decodeL_le)
set_option linter.unusedVariables false
set_option linter.unusedSimpArgs false
theorem idx_nat {α : Type} (l : List α) (k : Nat) : idx l (k : Int) = l[k]? := by
 unfold idx
 rw [if_pos (by omega)]
 simp
theorem idx_mid {α : Type} (pre t : List α) (x : α) : idx (pre ++ x :: t) (pre.length : Int) = some x := by
 rw [idx_nat]; simp
def findFrom (r : Int) : Nat → List Int → Int
 | _, [] => -1
 | k, x :: t => if x = r then (k : Int) else findFrom r (k + 1) t
theorem index_tends (l : List Int) (hl : l.length ≤ 1000000000000) (v : Int) : Tends (fun F => M_slices_Index_int_int F (l, v)) (findFrom v 0 l) := by
 have loop : ∀ (t pre : List Int), l = pre ++ t → ∃ y, TendsL M_slices_Index_int_int_l0 (l, v, (l.length : Int), (pre.length : Int), ()) y ∧ sumC y (fun _ => (-1 : Int)) (fun v => v.1) = findFrom v pre.length t := by
  intro t
  induction t with
  | nil =>
   intro pre h
   simp only [List.append_nil] at h
   subst h
   refine ⟨.inl (), TendsL.fin (Tends.of fun F => ?_), rfl⟩
   unfold M_slices_Index_int_int_l0
   simp
  | cons x t ih =>
   intro pre h
   have hlen : l.length = pre.length + (t.length + 1) := by rw [h]; simp
   have h1 : (pre.length : Int) < (l.length : Int) := by omega
   have hi : idx l (pre.length : Int) = some x := by rw [h]; exact idx_mid pre t x
   simp only [findFrom]
   by_cases he : x = v
   ·rw [if_pos he]
    refine ⟨.inr ((pre.length : Int), ()), TendsL.fin (Tends.of fun F => ?_), rfl⟩
    unfold M_slices_Index_int_int_l0
    simp [h1, hi, he]
   ·rw [if_neg he]
    obtain ⟨y, q1, q2⟩ := ih (pre ++ [x]) (by rw [h]; simp)
    refine ⟨y, TendsL.step (Tends.of fun F => ?_) q1, by simpa using q2⟩
    unfold M_slices_Index_int_int_l0
    have he' : ¬ v = x := fun e => he e.symm
    have hw : IntKind.i64.wrap ((pre.length : Int) + 1) = ((pre.length + 1 : Nat) : Int) := by rw [wrap64 _ (by omega) (by omega)]; rfl
    simp [h1, hi, he', hw]
 obtain ⟨y, h1, h2⟩ := loop l [] rfl
 unfold M_slices_Index_int_int
 refine h1.run.bind ?_
 refine Tends.of fun F => ?_
 rw [← (show _ = findFrom v 0 l from h2)]
 cases y <;> rfl
theorem findFrom_mem (v : Int) : ∀ (l : List Int) (k : Nat), decide (0 ≤ findFrom v k l) = decide (v ∈ l)
 | [], k => by simp [findFrom]
 | x :: t, k => by
  unfold findFrom
  by_cases h : x = v
  ·rw [if_pos h]
   have : (0 : Int) ≤ (k : Int) := by omega
   simp [this, h]
  ·rw [if_neg h, findFrom_mem v t (k + 1)]
   have h' : ¬ v = x := fun e => h e.symm
   simp [h']
theorem contains_tends (l : List Int) (hl : l.length ≤ 1000000000000) (v : Int) : Tends (fun F => M_slices_Contains_int_int F (l, v)) (decide (v ∈ l)) := by
 unfold M_slices_Contains_int_int
 refine (index_tends l hl v).bind ?_
 exact Tends.of fun F => by rw [findFrom_mem]
def onlyL (sorts : List Int) (l : List Int) : Bool := l.all fun x => decide (sortI x ∈ sorts)
theorem only_tends (s : List UInt8) (sorts : List Int) (hl : sorts.length ≤ 1000000000000) : Tends (fun F => M_sign_Only F (s, sorts)) (onlyL sorts ((signs s).map (·.1))) := by
 have loop : ∀ (n p : Nat), s.length - p ≤ n → p ≤ s.length →
   ∃ y, TendsL M_sign_Only_l0 (sorts, (), (s, p), ()) y ∧ sumC y (fun _ => true) (fun v => v.1) = onlyL sorts ((signs (s.drop p)).map (·.1)) := by
  intro n
  induction n with
  | zero =>
   intro p hn hp
   have hpe : p = s.length := by omega
   subst hpe
   refine ⟨.inl (), TendsL.fin (Tends.of fun F => ?_), by rw [List.drop_length, signs_nil]; rfl⟩
   unfold M_sign_Only_l0
   simp
  | succ n ih =>
   intro p hn hp
   by_cases hlt : p < s.length
   case neg => exact ih p (by omega) hp
   have hpos := decodeL_pos (s.drop p)
   have hnx := next_le hlt
   rw [signs_cons (drop_ne hlt), drop_next]
   have hc := contains_tends sorts hl (sortI ((decodeL (s.drop p)).1 : Int))
   by_cases he : sortI ((decodeL (s.drop p)).1 : Int) ∈ sorts
   ·obtain ⟨y, h1, h2⟩ := ih (p + (decodeL (s.drop p)).2) (by omega) hnx
    refine ⟨y, TendsL.step ?_ h1, by rw [h2]; simp [onlyL, he]⟩
    unfold M_sign_Only_l0
    simp only [hlt, decide_true, if_true, sort_eq, Option.bind_some, runeAt_eq, runeLen_eq]
    refine hc.bind ?_
    exact Tends.of fun F => by simp [he]
   ·refine ⟨.inr (false, ()), TendsL.fin ?_, by simp [onlyL, he, sumC]⟩
    unfold M_sign_Only_l0
    simp only [hlt, decide_true, if_true, sort_eq, Option.bind_some, runeAt_eq, runeLen_eq]
    refine hc.bind ?_
    exact Tends.of fun F => by simp [he]
 obtain ⟨y, h1, h2⟩ := loop s.length 0 (by omega) (by omega)
 unfold M_sign_Only
 refine h1.run.bind ?_
 refine Tends.of fun F => ?_
 rw [List.drop_zero] at h2
 rw [← h2]
 cases y <;> rfl
theorem countLoop (s : List UInt8) (hs : s.length ≤ 100000000000) (p : Nat) (hp : p ≤ s.length) (k : Nat) (hk : k + (s.length - p) ≤ 1000000000000) : TendsL M_sign_Count_l0 ((k : Int), (), (s, p), ()) (((k + (signs (s.drop p)).length : Nat) : Int), ()) := by
 have main : ∀ n p k, s.length - p ≤ n → p ≤ s.length → k + (s.length - p) ≤ 1000000000000 → TendsL M_sign_Count_l0 ((k : Int), (), (s, p), ()) (((k + (signs (s.drop p)).length : Nat) : Int), ()) := by
  intro n
  induction n with
  | zero =>
   intro p k hn hp hk
   have : p = s.length := by omega
   subst this
   refine TendsL.fin (Tends.of fun F => ?_)
   unfold M_sign_Count_l0
   simp [signs_nil]
  | succ n ih =>
   intro p k hn hp hk
   by_cases hlt : p < s.length
   ·have hpos := decodeL_pos (s.drop p)
    have hnx := next_le hlt
    rw [signs_cons (drop_ne hlt), drop_next]
    refine TendsL.step (x' := (((k + 1 : Nat) : Int), (), (s, p + (decodeL (s.drop p)).2), ())) (Tends.of fun F => ?_) ?_
    ·have w : IntKind.i64.wrap ((k : Int) + 1) = ((k + 1 : Nat) : Int) := by rw [wrap64 _ (by omega) (by omega)]; rfl
     unfold M_sign_Count_l0
     simp only [hlt, decide_true, if_true, runeLen_eq, w]
    ·have := ih (p + (decodeL (s.drop p)).2) (k + 1) (by omega) hnx (by omega)
     rw [List.length_cons, show k + ((signs (List.drop (p + (decodeL (List.drop p s)).2) s)).length + 1) = k + 1 + (signs (List.drop (p + (decodeL (List.drop p s)).2) s)).length by omega]
     exact this
   ·have : p = s.length := by omega
    subst this
    refine TendsL.fin (Tends.of fun F => ?_)
    unfold M_sign_Count_l0
    simp [signs_nil]
 exact main _ p k (Nat.le_refl _) hp hk
theorem count_tends (s : List UInt8) (hs : s.length ≤ 100000000000) : Tends (fun F => M_sign_Count F s) ((signs s).length : Int) := by
 unfold M_sign_Count
 have := countLoop s hs 0 (by omega) 0 (by omega)
 rw [List.drop_zero, Nat.zero_add] at this
 exact this.run.bind (k := fun F (v1 : Int × Unit) => some v1.1) (Tends.of fun F => rfl)
end Go.Vm
