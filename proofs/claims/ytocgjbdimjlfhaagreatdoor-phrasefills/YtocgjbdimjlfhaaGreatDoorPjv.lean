import Derived.Test.YtocgjbdimjlfhaaGreatDoorPj18
/- JSON: the document's values are the plain ones. No condition but on lengths. -/
namespace Go.Vm
open Go.Lib (decodeL decDigits itoa)
set_option linter.unusedVariables false
set_option linter.unusedSimpArgs false
theorem layP_B (d : Nat) (v : JV) : layP d v = layB (match d with | 0 => none | d + 1 => some (layP d)) v := by cases d <;> rfl
theorem refV_null (d : Nat) : refV d .null = (1, [110, 117, 108, 108], [], 0, [], [], ()) := by unfold refV; rw [layP_B]; rfl
theorem refV_true (d : Nat) : refV d (.bool true) = (2, [116, 114, 117, 101], [], 0, [], [], ()) := by unfold refV; rw [layP_B]; rfl
theorem refV_false (d : Nat) : refV d (.bool false) = (2, [102, 97, 108, 115, 101], [], 0, [], [], ()) := by unfold refV; rw [layP_B]; rfl
theorem refV_int (d : Nat) (n : Int) : refV d (.int n) = (3, itoa n, [], n, [], [], ()) := by unfold refV; rw [layP_B]; rfl
theorem refV_str (d : Nat) (t : By) : refV d (.str t) = (4, quo t, t, 0, [], [], ()) := by unfold refV; rw [layP_B]; rfl
abbrev wNull : By := [110, 117, 108, 108]
abbrev wTrue : By := [116, 114, 117, 101]
abbrev wFalse : By := [102, 97, 108, 115, 101]
noncomputable def val9W (F : Nat) (x : RS) : Option (V9 × RS) :=
 (M_conciergeref09_Read_word F ((x.1, x.2.1, x.2.2.1, x.2.2.2.1, ()), wNull)).bind fun v8 =>
  if v8.1 = true then some ((1, [110, 117, 108, 108], [], 0, [], [], ()), v8.2.1, v8.2.2.1, v8.2.2.2.1, v8.2.2.2.2.1, ())
  else (M_conciergeref09_Read_word F ((v8.2.1, v8.2.2.1, v8.2.2.2.1, v8.2.2.2.2.1, ()), wTrue)).bind fun v9 =>
   if v9.1 = true then some ((2, [116, 114, 117, 101], [], 0, [], [], ()), v9.2.1, v9.2.2.1, v9.2.2.2.1, v9.2.2.2.2.1, ())
   else (M_conciergeref09_Read_word F ((v9.2.1, v9.2.2.1, v9.2.2.2.1, v9.2.2.2.2.1, ()), wFalse)).bind fun v10 =>
    if v10.1 = true then some ((2, [102, 97, 108, 115, 101], [], 0, [], [], ()), v10.2.1, v10.2.2.1, v10.2.2.2.1, v10.2.2.2.2.1, ())
    else (M_conciergeref09_Read_number F (v10.2.1, v10.2.2.1, v10.2.2.2.1, v10.2.2.2.2.1, ())).bind fun v11 => some v11
theorem val9_eq (F : Nat) (R : RS → Option (V9 × RS)) (x : RS) : Mb_conciergeref09_Read_Value F R x = (M_conciergeref09_Read_blanks F (x.1, x.2.1, x.2.2.1, x.2.2.2.1, ())).bind fun v0 =>
  if (!decide (v0.2.2.2.2.1 = 0)) = true then some ((0, [], [], 0, [], [], ()), v0.2.1, v0.2.2.1, v0.2.2.2.1, v0.2.2.2.2.1, ())
  else (M_conciergeref09_Read_is F ((v0.2.1, v0.2.2.1, v0.2.2.2.1, v0.2.2.2.2.1, ()), 123)).bind fun v1 =>
   if v1.1 = true then (M_conciergeref09_Read_object F R (v1.2.1, v1.2.2.1, v1.2.2.2.1, v1.2.2.2.2.1, ())).bind fun v2 => some v2
   else (M_conciergeref09_Read_is F ((v1.2.1, v1.2.2.1, v1.2.2.2.1, v1.2.2.2.2.1, ()), 91)).bind fun v3 =>
    if v3.1 = true then (M_conciergeref09_Read_list F R (v3.2.1, v3.2.2.1, v3.2.2.2.1, v3.2.2.2.2.1, ())).bind fun v4 => some v4
    else (M_conciergeref09_Read_is F ((v3.2.1, v3.2.2.1, v3.2.2.2.1, v3.2.2.2.2.1, ()), 34)).bind fun v5 =>
     if v5.1 = true then (M_conciergeref09_Read_text F (v5.2.1, v5.2.2.1, v5.2.2.2.1, v5.2.2.2.2.1, ())).bind fun v6 => (M_conciergeref09_Quote F v6.1).bind fun v7 => some ((4, v7, v6.1, 0, [], [], ()), v6.2.1, v6.2.2.1, v6.2.2.2.1, v6.2.2.2.2.1, ())
     else val9W F v5.2 := rfl
theorem val9_words (s x : By) (hx : x <:+ s) (hs : s.length ≤ 1000) (d : Nat) (hd : d ≤ 8) : ∃ y, Tends (fun F => val9W F (st s x (8 - (d : Int)) 0)) y ∧ RV9 s d (if x.take 4 = wNull then .ok (.null, x.drop 4) else if x.take 4 = wTrue then .ok (.bool true, x.drop 4) else if x.take 5 = wFalse then .ok (.bool false, x.drop 5) else match numP x with
  | none => .error 3
  | some (n, r) => .ok (.int n, r)) y := by
 have e1 := fun F => word_eq F s x wNull hx hs (by decide) (8 - (d : Int)) 0
 have e2 := fun F => word_eq F s x wTrue hx hs (by decide) (8 - (d : Int)) 0
 have e3 := fun F => word_eq F s x wFalse hx hs (by decide) (8 - (d : Int)) 0
 by_cases w1 : x.take 4 = wNull
 ·have f1 : ∀ F, M_conciergeref09_Read_word F (st s x (8 - (d : Int)) 0, wNull) = some (true, st s (x.drop 4) (8 - (d : Int)) 0) := fun F => (e1 F).trans (congrArg some (if_pos w1))
  rw [if_pos w1]
  refine ⟨_, ?_, by show _ = _; rw [refV_null]⟩
  unfold val9W
  refine Tends.bind (.of f1) ?_
  exact Tends.pos rfl (.ret _)
 have f1 : ∀ F, M_conciergeref09_Read_word F (st s x (8 - (d : Int)) 0, wNull) = some (false, st s x (8 - (d : Int)) 0) := fun F => (e1 F).trans (congrArg some (if_neg w1))
 rw [if_neg w1]
 by_cases w2 : x.take 4 = wTrue
 ·have f2 : ∀ F, M_conciergeref09_Read_word F (st s x (8 - (d : Int)) 0, wTrue) = some (true, st s (x.drop 4) (8 - (d : Int)) 0) := fun F => (e2 F).trans (congrArg some (if_pos w2))
  rw [if_pos w2]
  refine ⟨_, ?_, by show _ = _; rw [refV_true]⟩
  unfold val9W
  refine Tends.bind (.of f1) ?_
  refine Tends.neg Bool.false_ne_true ?_
  refine Tends.bind (.of f2) ?_
  exact Tends.pos rfl (.ret _)
 have f2 : ∀ F, M_conciergeref09_Read_word F (st s x (8 - (d : Int)) 0, wTrue) = some (false, st s x (8 - (d : Int)) 0) := fun F => (e2 F).trans (congrArg some (if_neg w2))
 rw [if_neg w2]
 by_cases w3 : x.take 5 = wFalse
 ·have f3 : ∀ F, M_conciergeref09_Read_word F (st s x (8 - (d : Int)) 0, wFalse) = some (true, st s (x.drop 5) (8 - (d : Int)) 0) := fun F => (e3 F).trans (congrArg some (if_pos w3))
  rw [if_pos w3]
  refine ⟨_, ?_, by show _ = _; rw [refV_false]⟩
  unfold val9W
  refine Tends.bind (.of f1) ?_
  refine Tends.neg Bool.false_ne_true ?_
  refine Tends.bind (.of f2) ?_
  refine Tends.neg Bool.false_ne_true ?_
  refine Tends.bind (.of f3) ?_
  exact Tends.pos rfl (.ret _)
 have f3 : ∀ F, M_conciergeref09_Read_word F (st s x (8 - (d : Int)) 0, wFalse) = some (false, st s x (8 - (d : Int)) 0) := fun F => (e3 F).trans (congrArg some (if_neg w3))
 rw [if_neg w3]
 obtain ⟨y, n1, n2⟩ := number9_t s x hx hs (8 - (d : Int))
 refine ⟨y, ?_, ?_⟩
 ·unfold val9W
  refine Tends.bind (.of f1) ?_
  refine Tends.neg Bool.false_ne_true ?_
  refine Tends.bind (.of f2) ?_
  refine Tends.neg Bool.false_ne_true ?_
  refine Tends.bind (.of f3) ?_
  refine Tends.neg Bool.false_ne_true ?_
  exact Tends.bind n1 (.ret _)
 ·cases hn : numP x with
  | none =>
   rw [hn] at n2
   obtain ⟨r', hr', rfl⟩ := n2
   refine ⟨⟨by decide, r', _, rfl, hr', by omega, by omega⟩, ?_⟩
   show (1 : Nat) ≤ 9000 * (d + 1)
   omega
  | some w =>
   obtain ⟨n, q⟩ := w
   rw [hn] at n2
   subst n2
   show _ = _
   rw [refV_int]
theorem value9_body (s : By) (hs : s.length ≤ 1000) (d : Nat) (hd8 : d ≤ 8) (R : Nat → RS → Option (V9 × RS)) (hR : ∀ d', d = d' + 1 → VT9 s d' R) : VT9 s d (fun F => Mb_conciergeref09_Read_Value F (R F)) := by
 intro r hr
 have hv : valP d r = valB (match d with | 0 => none | d + 1 => some (valP d)) r := by cases d <;> rfl
 rw [hv]
 have hb := blanks_t s r hr hs (8 - (d : Int)) 0
 have hskr : skp r <:+ s := (skp_suffix r).trans hr
 have hi := fun z F => isH_skp s r hr F (8 - (d : Int)) 0 z
 unfold valB
 have n0 : ¬ (!decide ((0 : Int) = 0)) = true := by decide
 cases hc : skp r with
 | nil =>
  rw [hc] at hb hskr
  simp only [hc, isH_nil] at hi
  obtain ⟨y, w1, w2⟩ := val9_words s [] hskr hs d hd8
  refine ⟨y, ?_, w2⟩
  refine Tends.congr (m := fun F => _) ?_ fun F => val9_eq F (R F) _
  refine Tends.bind hb ?_
  refine Tends.neg n0 ?_
  refine Tends.bind (.of (hi 123)) ?_
  refine Tends.neg Bool.false_ne_true ?_
  refine Tends.bind (.of (hi 91)) ?_
  refine Tends.neg Bool.false_ne_true ?_
  refine Tends.bind (.of (hi 34)) ?_
  exact Tends.neg Bool.false_ne_true w1
 | cons c t =>
  rw [hc] at hb hskr
  simp only [hc, isH_cons] at hi
  have hts := tail_suf hskr
  have hl := suf_len hskr
  simp only [List.length_cons] at hl
  simp only
  by_cases c1 : c = 123
  ·subst c1
   have h1 := hi 123
   simp only [decide_true] at h1
   rw [if_pos rfl]
   obtain ⟨y, o1, o2⟩ := object9_t s hs d hd8 R hR t hskr
   refine ⟨y, ?_, o2⟩
   refine Tends.congr (m := fun F => _) ?_ fun F => val9_eq F (R F) _
   refine Tends.bind hb ?_
   refine Tends.neg n0 ?_
   refine Tends.bind (.of h1) ?_
   refine Tends.pos rfl ?_
   exact Tends.bind o1 (.ret _)
  rw [if_neg c1]
  have h1 := hi 123
  simp only [decide_eq_false c1] at h1
  by_cases c2 : c = 91
  ·subst c2
   have h2 := hi 91
   simp only [decide_true] at h2
   rw [if_pos rfl]
   obtain ⟨y, o1, o2⟩ := list9_t s hs d hd8 R hR t hskr
   refine ⟨y, ?_, o2⟩
   refine Tends.congr (m := fun F => _) ?_ fun F => val9_eq F (R F) _
   refine Tends.bind hb ?_
   refine Tends.neg n0 ?_
   refine Tends.bind (.of h1) ?_
   refine Tends.neg Bool.false_ne_true ?_
   refine Tends.bind (.of h2) ?_
   refine Tends.pos rfl ?_
   exact Tends.bind o1 (.ret _)
  rw [if_neg c2]
  have h2 := hi 91
  simp only [decide_eq_false c2] at h2
  by_cases c3 : c = 34
  ·subst c3
   have h3 := hi 34
   simp only [decide_true] at h3
   rw [if_pos rfl]
   obtain ⟨y, t1, t2⟩ := text9_t s t hskr hs (8 - (d : Int))
   have run : ∀ (q : By), Tends (fun F => M_conciergeref09_Quote F y.1) q → Tends (fun F => Mb_conciergeref09_Read_Value F (R F) (st s r (8 - (d : Int)) 0)) ((4, q, y.1, 0, [], [], ()), y.2) := by
    intro q hq
    refine Tends.congr (m := fun F => _) ?_ fun F => val9_eq F (R F) _
    refine Tends.bind hb ?_
    refine Tends.neg n0 ?_
    refine Tends.bind (.of h1) ?_
    refine Tends.neg Bool.false_ne_true ?_
    refine Tends.bind (.of h2) ?_
    refine Tends.neg Bool.false_ne_true ?_
    refine Tends.bind (.of h3) ?_
    refine Tends.pos rfl ?_
    refine Tends.bind t1 ?_
    exact Tends.bind hq (.ret _)
   cases ht : txt t with
   | none =>
    rw [ht] at t2
    obtain ⟨r', hr', rfl⟩ := t2
    refine ⟨_, run _ (quote9_t [] (by simp)), ⟨by decide, r', _, rfl, hr', by omega, by omega⟩, ?_⟩
    show (2 : Nat) ≤ 9000 * (d + 1)
    omega
   | some w =>
    obtain ⟨tx, q⟩ := w
    rw [ht] at t2
    subst t2
    obtain ⟨_, _, t3⟩ := txt_ok t ht
    have := quoL_ge tx
    refine ⟨_, run _ (quote9_t tx (by omega)), ?_⟩
    show _ = _
    rw [refV_str]
  rw [if_neg c3]
  have h3 := hi 34
  simp only [decide_eq_false c3] at h3
  obtain ⟨y, w1, w2⟩ := val9_words s (c :: t) hskr hs d hd8
  refine ⟨y, ?_, w2⟩
  refine Tends.congr (m := fun F => _) ?_ fun F => val9_eq F (R F) _
  refine Tends.bind hb ?_
  refine Tends.neg n0 ?_
  refine Tends.bind (.of h1) ?_
  refine Tends.neg Bool.false_ne_true ?_
  refine Tends.bind (.of h2) ?_
  refine Tends.neg Bool.false_ne_true ?_
  refine Tends.bind (.of h3) ?_
  exact Tends.neg Bool.false_ne_true w1
theorem value9_t (s : By) (hs : s.length ≤ 1000) : ∀ (d : Nat), d ≤ 8 → ∀ j, VT9 s d (fun F => Mr_conciergeref09_Read_Value F (F - j)) := by
 intro d
 induction d with
 | zero =>
  intro hd j r hr
  obtain ⟨y, h1, h2⟩ := value9_body s hs 0 hd (fun F => Mr_conciergeref09_Read_Value F (F - (j + 1))) (fun d' h => by omega) r hr
  refine ⟨y, h1.evt (j + 1) fun F hF => ?_, h2⟩
  show Mr_conciergeref09_Read_Value F (F - j) _ = _
  rw [show F - j = (F - (j + 1)) + 1 by omega]
  rfl
 | succ d ih =>
  intro hd j r hr
  obtain ⟨y, h1, h2⟩ := value9_body s hs (d + 1) hd (fun F => Mr_conciergeref09_Read_Value F (F - (j + 1))) (fun d' h => (Nat.succ.inj h) ▸ ih (by omega) (j + 1)) r hr
  refine ⟨y, h1.evt (j + 1) fun F hF => ?_, h2⟩
  show Mr_conciergeref09_Read_Value F (F - j) _ = _
  rw [show F - j = (F - (j + 1)) + 1 by omega]
  rfl
def ofP (s : By) : V9 × Int := match allP s with
 | .ok v => (refV 8 v, 0)
 | .error e => (z9, (e : Int))
theorem of9_t (s : By) (hs : s.length ≤ 1000) : Tends (fun F => M_conciergeref09_Of F s) (ofP s) := by
 unfold M_conciergeref09_Of ofP allP
 by_cases h4 : 400 < s.length
 ·rw [if_pos h4]
  exact Tends.pos (by have : (400 : Int) < (s.length : Int) := by omega
                      simpa using this) (.ret _)
 ·rw [if_neg h4]
  refine Tends.neg (by have : ¬ (400 : Int) < (s.length : Int) := by omega
                       simpa using this) ?_
  obtain ⟨⟨v, x⟩, h1, h2⟩ := value9_t s hs 8 (Nat.le_refl _) 0 s (List.suffix_refl s)
  have e0 : st s s (8 - ((8 : Nat) : Int)) 0 = (s, 0, 0, 0, ()) := by unfold st; rw [Nat.sub_self]; rfl
  rw [e0] at h1
  have h1' : Tends (fun F => M_conciergeref09_Read_Value F (s, 0, 0, 0, ())) (v, x) := h1
  refine Tends.bind h1' ?_
  cases hv : valP 8 s with
  | error e =>
   rw [hv] at h2
   obtain ⟨⟨he, r, k, hx, hr, hk⟩, _⟩ : Bad s e x ∧ _ := h2
   subst hx
   have hp := blanks_t s r hr hs k e
   refine Tends.bind hp ?_
   have he' : ¬ (e : Int) = 0 := by omega
   refine Tends.bind (r := (((), (), (), z9, st s (skp r) k e, v, ()) : Unit × Unit × Unit × V9 × RS × V9 × Unit)) ?_ ?_
   ·refine .of fun F => ?_
    unfold st
    simp only [bad_eq, Option.bind_some, if_neg he', ite_self]
    rfl
   ·exact Tends.pos (by simpa [st] using he) (.ret _)
  | ok w =>
   obtain ⟨v', r⟩ := w
   rw [hv] at h2
   have h2 : (v, x) = (refV 8 v', st s r (8 - ((8 : Nat) : Int)) 0) := h2
   injection h2 with h2 h2'
   subst h2; subst h2'
   obtain ⟨_, o2, _, _⟩ := val_ok 8 s v' r hv
   have hp := blanks_t s r o2 hs (8 - ((8 : Nat) : Int)) 0
   refine Tends.bind hp ?_
   have hsk : skp r <:+ s := (skp_suffix r).trans o2
   by_cases hq : skp r = []
   ·simp only
    rw [if_pos hq, hq]
    refine Tends.bind (r := (((), (), (), z9, st s [] (8 - ((8 : Nat) : Int)) 0, refV 8 v', ()) : Unit × Unit × Unit × V9 × RS × V9 × Unit)) ?_ ?_
    ·exact Tends.neg (by simp [st]) (.ret _)
    ·exact Tends.neg (by simp [st]) (.ret _)
   ·simp only
    rw [if_neg hq]
    have hl := suf_len hsk
    have hpos := List.length_pos_iff.2 hq
    refine Tends.bind (r := (((), (), (), z9, st s (skp r) (8 - ((8 : Nat) : Int)) 3, refV 8 v', ()) : Unit × Unit × Unit × V9 × RS × V9 × Unit)) ?_ ?_
    ·refine Tends.pos (by rw [decide_eq_true_eq]; show ((s.length - (skp r).length : Nat) : Int) < (s.length : Int); omega) (.of fun F => ?_)
     unfold st
     simp only [bad_eq, Option.bind_some, if_true]
     rfl
    ·exact Tends.pos (by simp [st]) (.ret _)
end Go.Vm
/- JSON: what the program tells of a text's parts, for those that ask it. No condition but on lengths. -/
namespace Go.Vm
open Go.Proofs
open Go.Lib (decodeL decDigits itoa)
set_option linter.unusedVariables false
set_option linter.unusedSimpArgs false
def vP (s : By) : JV := match allP s with
 | .ok v => v
 | .error _ => .nil
theorem parse_v (s : By) (hs : s.length ≤ 1000) : Tends (fun F => M_json_parse F s) (vP s, (ofP s).2) := by
 refine Tends.eq (parse_t s hs) ?_
 unfold vP ofP
 cases allP s <;> rfl
theorem ofP_parts (s : By) : (ofP s).1.1 = kindP (vP s) ∧ (ofP s).1.2.2.1 = textP (vP s) ∧ (ofP s).1.2.2.2.1 = numV (vP s) ∧ (ofP s).1.2.2.2.2.1 = namesP (vP s) ∧ (ofP s).1.2.2.2.2.2.1 = itemsP 8 (vP s) := by
 unfold ofP vP
 cases allP s <;> exact ⟨rfl, rfl, rfl, rfl, rfl⟩
theorem text_v (s : By) (hs : s.length ≤ 1000) : Tends (fun F => M_json_Text F s) (textP (vP s), decide (kindP (vP s) = 4)) := by
 unfold M_json_Text
 refine Tends.bind (parse_v s hs) ?_
 cases vP s <;> exact .ret _
def objL : JV → List Me
 | .obj l => l
 | _ => []
theorem names_objL (v : JV) : namesP v = (objL v).map (·.1) := by cases v <;> rfl
theorem vP_ok (s : By) : vP s = .nil ∨ (okV 8 (vP s) ∧ (layP 8 (vP s)).length ≤ 400) := by
 unfold vP
 cases h : allP s with
 | error e => exact .inl rfl
 | ok v =>
  obtain ⟨o1, o2, o3⟩ := all_ok h
  exact .inr ⟨o1, Nat.le_trans o2 o3⟩
theorem obj_facts {v : JV} {l : List Me} (h : v = .nil ∨ (okV 8 v ∧ (layP 8 v).length ≤ 400)) (hv : v = .obj l) : Uni l ∧ l.length ≤ 400 ∧ ∀ m ∈ l, okV 7 m.2.1 ∧ (layP 7 m.2.1).length ≤ 400 := by
 subst hv
 rcases h with h | ⟨h1, h2⟩
 ·cases h
 obtain ⟨h3, h4⟩ : Ris l ∧ ∀ m ∈ l, OkT m.1 ∧ okV 7 m.2.1 := h1
 have e : layP 8 (.obj l) = 123 :: (joinB (l.map fun m => quo m.1 ++ 58 :: layP 7 m.2.1) ++ [125]) := rfl
 rw [e] at h2
 simp only [List.length_cons, List.length_append, List.length_nil] at h2
 have hj := join_len (fun m : Me => quo m.1 ++ 58 :: layP 7 m.2.1) l (fun m _ => by unfold quo; simp)
 refine ⟨ris_uni h3, by omega, fun m hm => ⟨(h4 m hm).2, ?_⟩⟩
 have := piece (fun m : Me => quo m.1 ++ 58 :: layP 7 m.2.1) l m hm
 simp only [List.length_append, List.length_cons] at this
 omega
where
 piece {α : Type} (f : α → By) : ∀ (l : List α) (x : α), x ∈ l → (f x).length ≤ (joinB (l.map f)).length
  | [], x, h => by cases h
  | [y], x, h => by
   rw [List.mem_singleton] at h
   subst h
   exact Nat.le_refl _
  | y :: z :: l, x, h => by
   have ih := piece f (z :: l)
   rw [List.map_cons] at ih
   simp only [List.map_cons, joinB, List.length_append, List.length_cons] at ih ⊢
   rcases List.mem_cons.1 h with rfl | h
   ·omega
   ·have := ih x h
    omega
def firstM (name : By) : List Me → By × Bool
 | [] => ([], false)
 | m :: l => if m.1 = name then (layP 7 m.2.1, true) else firstM name l
theorem first_find (name : By) : ∀ l : List Me, match l.findIdx? (fun m => m.1 == name) with
  | some i => ∃ m, l[i]? = some m ∧ firstM name l = (layP 7 m.2.1, true)
  | none => firstM name l = ([], false)
 | [] => rfl
 | m :: l => by
  have ih := first_find name l
  rw [List.findIdx?_cons]
  by_cases hc : m.1 = name
  ·rw [if_pos (beq_iff_eq.2 hc)]
   exact ⟨m, rfl, by unfold firstM; rw [if_pos hc]⟩
  ·rw [if_neg (by simpa using hc)]
   cases hf : l.findIdx? (fun m => m.1 == name) with
   | none =>
    rw [hf] at ih
    simp only [Option.map_none]
    unfold firstM
    rw [if_neg hc]
    exact ih
   | some i =>
    rw [hf] at ih
    obtain ⟨m', h1, h2⟩ := ih
    simp only [Option.map_some]
    refine ⟨m', by simpa using h1, ?_⟩
    unfold firstM
    rw [if_neg hc]
    exact h2
theorem field_v (s name : By) (hs : s.length ≤ 1000) : Tends (fun F => M_json_Field F (s, name)) (firstM name (objL (vP s))) := by
 have hv := vP_ok s
 unfold M_json_Field
 refine Tends.bind (parse_v s hs) ?_
 have none : Tends (fun F => (M_json_object_find F ([], name)).bind fun v5 => if decide (v5 < 0) = true then some ([], false) else (idx ([] : List Me) v5).bind fun v6 => (M_json_lay F ([], v6.2.1)).bind fun v7 => some (v7, true)) (([], false) : By × Bool) := by
  refine Tends.bind (find_t [] name (by simp)) ?_
  exact Tends.pos rfl (.ret _)
 cases hc : vP s with
 | obj l =>
  obtain ⟨h1, h2, h3⟩ := obj_facts hv hc
  refine Tends.pos rfl ?_
  refine Tends.bind (.of fun F => (rfl : (JV.obj l).obj? = some l)) ?_
  refine Tends.bind (find_t l name (by omega)) ?_
  have hff := first_find name l
  unfold findI
  cases hf : l.findIdx? (fun m => m.1 == name) with
  | none =>
   rw [hf] at hff
   refine Tends.pos (by decide) ?_
   show Tends _ (firstM name l)
   rw [hff]
   exact .ret _
  | some i =>
   rw [hf] at hff
   obtain ⟨m, q1, q2⟩ := hff
   refine Tends.neg (by show ¬ decide ((i : Int) < 0) = true; rw [decide_eq_true_eq]; omega) ?_
   refine Tends.bind (.of fun F => idx_at l i m q1) ?_
   obtain ⟨o1, o2⟩ := h3 m (List.mem_of_getElem? q1)
   show Tends _ (firstM name l)
   rw [q2]
   exact Tends.bind (lay_t 7 m.2.1 [] o1 (by simp; omega)) (.ret _)
 | _ => exact Tends.neg Bool.false_ne_true none
end Go.Vm
