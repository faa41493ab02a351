import Derived.Test.YtocgjbdimjlfhaaGreatDoorFlaw24
import Derived.Test.YtocgjbdimjlfhaaGreatDoorPr5
/- Tables: plain paths, the standard table, finding, small tables; the wake. No condition but on lengths. -/
namespace Go.Vm
open Go.Proofs
open Go.Lib (decDigits itoa)
set_option linter.unusedVariables false
set_option linter.unusedSimpArgs false
/-! ### plain paths -/
theorem splitL_splC (s : By) : splitL s = splC 47 s := (split_splitL s).symm.trans (split_splC 47 s)
theorem readL_plain : ∀ x : By, (∀ b ∈ x, plainB b = true) → readL x = some x
  | [], h => readL_nil
  | c :: x, h => by
    have hc := h c (List.mem_cons_self ..)
    rw [readL_c (by rintro rfl; exact absurd hc (by decide)), readL_plain x fun b hb => h b (List.mem_cons_of_mem _ hb)]
    rfl
theorem writeL_plain : ∀ x : By, (∀ b ∈ x, plainB b = true) → writeL x = x
  | [], h => rfl
  | c :: x, h => by
    have hc := h c (List.mem_cons_self ..)
    have ih := writeL_plain x fun b hb => h b (List.mem_cons_of_mem _ hb)
    show wr1 c ++ writeL x = c :: x
    rw [ih]
    unfold wr1
    rw [if_pos hc]
    rfl
theorem plain_tab2 : ∀ c : Fin 256, plainB (UInt8.ofNat c.val) = true → 33 ≤ c.val ∧ c.val ≤ 126 := by decide +kernel
theorem plain_pln {c : UInt8} (h : plainB c = true) : plnB c := by
  have := plain_tab2 ⟨c.toNat, c.toNat_lt⟩ (by simpa using h)
  exact this
theorem allS_pl (x : By) (h : ∀ b ∈ x, plainB b = true) : allS x = true := by
  have := allS_plain x.length x fun b hb => plain_pln (h b (List.mem_of_mem_take hb))
  rw [this, List.drop_length]
  exact allS_nil
theorem right_of' (s : By) (r : Int) (h0 : s ≠ []) (hr : (s.length : Int) ≤ r) (h : allS s = true) : rightB s r = true := by
  unfold rightB
  rw [if_neg (by rintro (h | h); exact h0 h; omega)]
  have : badN ((signs s).map (·.1)) = false := by
    rw [allS_map] at h
    unfold badN
    rw [List.any_eq_false]
    intro n hn
    have := List.all_eq_true.1 h n hn
    simpa using this
  unfold badR
  rw [this]
  rfl
def ownP (x : By) : Prop := x ≠ [] ∧ (∀ b ∈ x, plainB b = true) ∧ x ≠ [46] ∧ x ≠ [46, 46] ∧ x.length ≤ 60
theorem readF_own {x : By} (h : ownP x) : readF x = (x, true) := by
  obtain ⟨h0, h1, _, _, h4⟩ := h
  rw [readF_some (readL_plain x h1), right_of' x 60 h0 (by omega) (allS_pl x h1), Bool.or_true]
theorem walk_own : ∀ (ps out : List By), (∀ p ∈ ps, ownP p) → walkP ps out = some (out ++ ps)
  | [], out, h => by rw [walkP, List.append_nil]
  | p :: ps, out, h => by
    have hp := h p (List.mem_cons_self ..)
    have hr := readF_own hp
    obtain ⟨h0, _, h2, h3, _⟩ := hp
    rw [walkP, hr]
    simp only
    rw [if_neg (by simp), if_neg (by rintro (h | h); exact h0 h; exact h2 h), if_neg h3, walk_own ps _ fun q hq => h q (List.mem_cons_of_mem _ hq), List.append_assoc]
    rfl
theorem own_no47 {x : By} (h : ownP x) : ∀ b ∈ x, b ≠ 47 := by
  intro b hb
  have := h.2.1 b hb
  rintro rfl
  exact absurd this (by decide)
theorem joinP_own : ∀ ps : List By, ps ≠ [] → (∀ p ∈ ps, ownP p) → joinP ps = 47 :: joinD 47 ps
  | [], h, _ => absurd rfl h
  | [p], _, h => by
    show (47 :: writeL p) ++ [] = 47 :: p
    rw [List.append_nil, writeL_plain p (h p (List.mem_cons_self ..)).2.1]
  | p :: q :: r, _, h => by
    show (47 :: writeL p) ++ joinP (q :: r) = _
    rw [joinP_own (q :: r) (by simp) fun x hx => h x (List.mem_cons_of_mem _ hx), writeL_plain p (h p (List.mem_cons_self ..)).2.1, joinD_cons 47 p (by simp)]
    rfl
theorem form_own (ps : List By) (h0 : ps ≠ []) (h : ∀ p ∈ ps, ownP p) (hl : (joinD 47 ps).length ≤ 59) : formG (47 :: joinD 47 ps) = true := by
  have hs : splitL (joinD 47 ps) = ps := by rw [splitL_splC]; exact splC_join ps h0 fun p hp => own_no47 (h p hp)
  have hp : pathF (47 :: joinD 47 ps) = (47 :: joinD 47 ps, true) := by
    rw [pathF_in (by have := hl; omega), hs, walk_own ps [] h, List.nil_append]
    simp only
    unfold finP
    rw [joinP_own ps h0 h, if_neg (show ¬ (47 :: joinD 47 ps : By) = [] by simp), if_neg (show ¬ 60 < (47 :: joinD 47 ps : By).length by rw [List.length_cons]; omega)]
  unfold formG
  rw [hp]
  simp
abbrev wPost : By := [80, 79, 83, 84]
abbrev wGet : By := [71, 69, 84]
abbrev wPay : By := [112, 97, 121]
abbrev wNote : By := [110, 111, 116, 101]
abbrev tSum : By := [37, 123, 115, 117, 109, 125]
def stdP1 : List PhT := [(2, [115, 117, 109], 1000, [], ()), (3, [100, 101, 98, 105, 116], 0, tSum, ()), (3, [99, 114, 101, 100, 105, 116], 0, tSum, ()), (4, [], 201, [112, 97, 105, 100, 32, 37, 123, 115, 117, 109, 125], ())]
def stdP2 : List PhT := [(1, [], 40, [], ()), (3, [119, 114, 105, 116, 101], 0, [37, 98], ()), (4, [], 200, [110, 111, 116, 101, 100, 32, 37, 112], ())]
def stdP3 : List PhT := [(4, [], 200, [37, 109, 32, 37, 112], ())]
def stdR : List RlT := [(wPost, 47 :: wPay, stdP1, ()), (wPost, 47 :: (wNote ++ [47, 42]), stdP2, ()), (wGet, [47, 42, 42], stdP3, ())]
abbrev stdS : By := [80, 79, 83, 84, 32, 47, 112, 97, 121, 58, 32, 110, 101, 101, 100, 32, 115, 117, 109, 32, 49, 48, 48, 48, 59, 32, 99, 97, 108, 108, 32, 100, 101, 98, 105, 116, 32, 37, 123, 115, 117, 109, 125, 59, 32, 99, 97, 108, 108, 32, 99, 114, 101, 100, 105, 116, 32, 37, 123, 115, 117, 109, 125, 59, 32, 101, 110, 100, 32, 50, 48, 49, 32, 112, 97, 105, 100, 32, 37, 123, 115, 117, 109, 125, 10, 80, 79, 83, 84, 32, 47, 110, 111, 116, 101, 47, 42, 58, 32, 111, 110, 108, 121, 32, 52, 48, 59, 32, 99, 97, 108, 108, 32, 119, 114, 105, 116, 101, 32, 37, 98, 59, 32, 101, 110, 100, 32, 50, 48, 48, 32, 110, 111, 116, 101, 100, 32, 37, 112, 10, 71, 69, 84, 32, 47, 42, 42, 58, 32, 101, 110, 100, 32, 50, 48, 48, 32, 37, 109, 32, 37, 112]
theorem dd2 {i : Nat} (h1 : ¬ i < 10) (h2 : i < 100) : decDigits i = [UInt8.ofNat (48 + i / 10), UInt8.ofNat (48 + i % 10)] := Go.Lib.decDigits_two h1 h2
theorem dd3 {i : Nat} (h1 : ¬ i < 100) (h2 : i < 1000) : decDigits i = [UInt8.ofNat (48 + i / 10 / 10), UInt8.ofNat (48 + i / 10 % 10), UInt8.ofNat (48 + i % 10)] := by
  rw [decDigits, dif_neg (by omega), dd2 (by omega) (by omega)]
  rfl
theorem itoa_40 : itoa 40 = [52, 48] := by unfold itoa; rw [if_neg (by decide)]; exact dd2 (by decide) (by decide)
theorem itoa_200 : itoa 200 = [50, 48, 48] := by unfold itoa; rw [if_neg (by decide)]; exact dd3 (by decide) (by decide)
theorem itoa_201 : itoa 201 = [50, 48, 49] := by unfold itoa; rw [if_neg (by decide)]; exact dd3 (by decide) (by decide)
theorem itoa_1000 : itoa 1000 = [49, 48, 48, 48] := by
  unfold itoa
  rw [if_neg (by decide)]
  show decDigits 1000 = _
  rw [decDigits, dif_neg (by decide), show (1000 : Nat) / 10 = 100 from rfl, dd3 (by decide) (by decide)]
  rfl
theorem std_1 : printG stdP1 = [110, 101, 101, 100, 32, 115, 117, 109, 32, 49, 48, 48, 48, 59, 32, 99, 97, 108, 108, 32, 100, 101, 98, 105, 116, 32, 37, 123, 115, 117, 109, 125, 59, 32, 99, 97, 108, 108, 32, 99, 114, 101, 100, 105, 116, 32, 37, 123, 115, 117, 109, 125, 59, 32, 101, 110, 100, 32, 50, 48, 49, 32, 112, 97, 105, 100, 32, 37, 123, 115, 117, 109, 125] := by
  have h1 : phText (2, [115, 117, 109], 1000, [], ()) = wNeed ++ 32 :: ([115, 117, 109] ++ 32 :: itoa 1000) := rfl
  have h4 : phText (4, [], 201, [112, 97, 105, 100, 32, 37, 123, 115, 117, 109, 125], ()) = wEnd ++ 32 :: (itoa 201 ++ tailG [112, 97, 105, 100, 32, 37, 123, 115, 117, 109, 125]) := rfl
  unfold printG stdP1
  simp only [List.map_cons, List.map_nil, h1, h4, itoa_1000, itoa_201]
  decide
theorem std_2 : printG stdP2 = [111, 110, 108, 121, 32, 52, 48, 59, 32, 99, 97, 108, 108, 32, 119, 114, 105, 116, 101, 32, 37, 98, 59, 32, 101, 110, 100, 32, 50, 48, 48, 32, 110, 111, 116, 101, 100, 32, 37, 112] := by
  have h1 : phText (1, [], 40, [], ()) = wOnly ++ 32 :: itoa 40 := rfl
  have h4 : phText (4, [], 200, [110, 111, 116, 101, 100, 32, 37, 112], ()) = wEnd ++ 32 :: (itoa 200 ++ tailG [110, 111, 116, 101, 100, 32, 37, 112]) := rfl
  unfold printG stdP2
  simp only [List.map_cons, List.map_nil, h1, h4, itoa_40, itoa_200]
  decide
theorem std_3 : printG stdP3 = [101, 110, 100, 32, 50, 48, 48, 32, 37, 109, 32, 37, 112] := by
  have h4 : phText (4, [], 200, [37, 109, 32, 37, 112], ()) = wEnd ++ 32 :: (itoa 200 ++ tailG [37, 109, 32, 37, 112]) := rfl
  unfold printG stdP3
  simp only [List.map_cons, List.map_nil, h4, itoa_200]
  decide
theorem std_print : printR stdR = stdS := by
  unfold printR stdR
  simp only [List.map_cons, List.map_nil, lineG, std_1, std_2, std_3]
  kernel_rfl
theorem own_pay : ownP wPay := ⟨by decide, by decide, by decide, by decide, by decide⟩
theorem own_note : ownP wNote := ⟨by decide, by decide, by decide, by decide, by decide⟩
theorem own_a : ownP [97] := ⟨by decide, by decide, by decide, by decide, by decide⟩
theorem form_pay : formG (47 :: wPay) = true := form_own [wPay] (by simp) (by intro p hp; rw [List.mem_singleton] at hp; subst hp; exact own_pay) (by decide)
theorem form_note : formG (47 :: wNote) = true := form_own [wNote] (by simp) (by intro p hp; rw [List.mem_singleton] at hp; subst hp; exact own_note) (by decide)
abbrev wNoteA : By := [47, 110, 111, 116, 101, 47, 97]
theorem form_noteA : formG wNoteA = true := form_own [wNote, [97]] (by simp) (by
  intro p hp
  rcases List.mem_cons.1 hp with rfl | hp
  · exact own_note
  · rw [List.mem_singleton] at hp; subst hp; exact own_a) (by decide)
theorem pat_pay : patG (47 :: wPay) = true := by
  have e : partsG (47 :: wPay) = [wPay] := by decide
  unfold patG
  rw [e]
  unfold patL
  rw [form_pay]
  decide
theorem pat_note : patG (47 :: (wNote ++ [47, 42])) = true := by
  have e : partsG (47 :: (wNote ++ [47, 42])) = [wNote, [42]] := by decide
  unfold patG
  rw [e]
  unfold patL
  rw [form_note]
  unfold patL
  decide
theorem pat_all : patG [47, 42, 42] = true := by
  have e : partsG [47, 42, 42] = [[42, 42]] := by decide
  unfold patG
  rw [e]
  unfold patL
  rw [decide_eq_true (show ([42, 42] : By) = [42, 42] from rfl), decide_eq_true (show ([] : List By) = [] from rfl)]
  rfl
theorem may_1 : mayG stdP1 = true := by kernel_rfl
theorem may_2 : mayG stdP2 = true := by kernel_rfl
theorem may_3 : mayG stdP3 = true := by kernel_rfl
theorem meth_post : methG wPost = true := by kernel_rfl
theorem meth_get : methG wGet = true := by kernel_rfl
theorem std_may : mayR stdR = true := by
  unfold mayR stdR ruleG
  simp only [List.all_cons, List.all_nil, meth_post, meth_get, pat_pay, pat_note, pat_all, may_1, may_2, may_3]
  rfl
theorem std_bnd : ∀ r ∈ stdR, bndQ r := by
  intro r hr
  have hg := (mayR_all std_may).2.2 r hr
  obtain ⟨q1, q2, _, _⟩ := rule_len hg
  have hm : mayG r.2.2.1 = true := by
    unfold ruleG at hg
    simp only [Bool.and_eq_true] at hg
    exact hg.2
  obtain ⟨m1, _, m3⟩ := may_right hm
  refine ⟨?_, by omega, by omega, fun p hp => right_bnd (m1 p hp)⟩
  unfold stdR at hr
  simp only [List.mem_cons, List.not_mem_nil, or_false] at hr
  rcases hr with rfl | rfl | rfl <;> decide
theorem standard_t : Tends (fun F => M_route_Standard F ()) stdR := by
  have h := rparseR_t stdS (of_decide_eq_true (by kernel_rfl))
  rw [← std_print, parseR_print stdR std_may] at h
  unfold M_route_Standard
  rw [std_print] at h
  exact Tends.bind h (.ret _)
theorem find_1 : findV stdR wPost wNoteA = 1 := by
  have f0 : fitsB (wPost, 47 :: wPay, stdP1, ()) wPost wNoteA = false := by
    have : fitsL (partsG (47 :: wPay)) (partsG wNoteA) = false := by decide
    unfold fitsB fitsG
    simp only [this, Bool.and_false]
  have f1 : fitsB (wPost, 47 :: (wNote ++ [47, 42]), stdP2, ()) wPost wNoteA = true := by
    have : fitsL (partsG (47 :: (wNote ++ [47, 42]))) (partsG wNoteA) = true := by decide
    unfold fitsB fitsG
    simp only [this, pat_note, form_noteA, Bool.and_true]
    decide
  unfold findV stdR findG
  rw [f0, if_neg Bool.false_ne_true]
  unfold findG
  rw [f1, if_pos rfl]
  rfl
theorem find_2 : findV stdR wGet wNoteA = 2 := by
  have f0 : fitsB (wPost, 47 :: wPay, stdP1, ()) wGet wNoteA = false := by
    have : (decide (wPost = wGet) || decide (wPost = [42])) = false := by decide
    unfold fitsB
    simp only [this, Bool.false_and]
  have f1 : fitsB (wPost, 47 :: (wNote ++ [47, 42]), stdP2, ()) wGet wNoteA = false := by
    have : (decide (wPost = wGet) || decide (wPost = [42])) = false := by decide
    unfold fitsB
    simp only [this, Bool.false_and]
  have f2 : fitsB (wGet, [47, 42, 42], stdP3, ()) wGet wNoteA = true := by
    have : fitsL (partsG [47, 42, 42]) (partsG wNoteA) = true := by decide
    unfold fitsB fitsG
    simp only [this, pat_all, form_noteA, Bool.and_true]
    decide
  unfold findV stdR findG
  rw [f0, if_neg Bool.false_ne_true]
  unfold findG
  rw [f1, if_neg Bool.false_ne_true]
  unfold findG
  rw [f2, if_pos rfl]
  rfl
theorem find_3 : findV stdR wGet [47] = -1 := by
  have f0 : fitsB (wPost, 47 :: wPay, stdP1, ()) wGet [47] = false := by
    have : (decide (wPost = wGet) || decide (wPost = [42])) = false := by decide
    unfold fitsB
    simp only [this, Bool.false_and]
  have f1 : fitsB (wPost, 47 :: (wNote ++ [47, 42]), stdP2, ()) wGet [47] = false := by
    have : (decide (wPost = wGet) || decide (wPost = [42])) = false := by decide
    unfold fitsB
    simp only [this, Bool.false_and]
  have f2 : fitsB (wGet, [47, 42, 42], stdP3, ()) wGet [47] = false := by
    have : fitsL (partsG [47, 42, 42]) (partsG [47]) = false := by decide
    unfold fitsB fitsG
    simp only [this, Bool.and_false]
  unfold findV stdR findG
  rw [f0, if_neg Bool.false_ne_true]
  unfold findG
  rw [f1, if_neg Bool.false_ne_true]
  unfold findG
  rw [f2, if_neg Bool.false_ne_true]
  rfl
theorem awake24_t : Tends (fun F => M_conciergelaw24_awake F ()) true := by
  have hb : ∀ r ∈ stdR, bndR r := fun r hr => (std_bnd r hr).r
  have hp := rprintR_t stdR (by decide) hb
  rw [if_pos std_may, std_print] at hp
  have f1 := find_v stdR wPost wNoteA (by decide) hb (by decide)
  rw [find_1] at f1
  have f2 := find_v stdR wGet wNoteA (by decide) hb (by decide)
  rw [find_2] at f2
  have f3 := find_v stdR wGet [47] (by decide) hb (by decide)
  rw [find_3] at f3
  unfold M_conciergelaw24_awake
  refine Tends.bind standard_t (Tends.bind hp ?_)
  refine Tends.bind (r := ((stdR, true, ()) : List RlT × Bool × Unit)) (Tends.pos rfl (.of fun F => rfl)) ?_
  refine Tends.bind (r := ((stdR, true, ()) : List RlT × Bool × Unit)) (Tends.pos rfl (Tends.bind f1 (.ret _))) ?_
  refine Tends.bind (r := ((stdR, true, ()) : List RlT × Bool × Unit)) (Tends.pos rfl (Tends.bind f2 (.ret _))) ?_
  exact Tends.bind (r := ((true, ()) : Bool × Unit)) (Tends.pos rfl (Tends.bind f3 (.ret _))) (.ret _)
end Go.Vm
/- Tables: the laws of fits, of any text, and of tables there and back. No condition but on lengths. -/
namespace Go.Vm
open Go.Proofs
set_option linter.unusedVariables false
set_option linter.unusedSimpArgs false
/-! ### the same -/
theorem same0_loop (l : List RlT) (hl : l.length ≤ 1000000) (i : Nat) (r : RlT) (hr : l[i]? = some r) (hp : r.2.2.1.length ≤ 1000000) : ∀ (n k : Nat), k + n = r.2.2.1.length → TendsL M_conciergeref24_Same_l0 (l, l, (i : Int), (k : Int), ()) (.inl (l, l, (i : Int), ()))
  | 0, k, h => by
    have hx : idx l (i : Int) = some r := idx_at _ _ _ hr
    refine TendsL.fin (.of fun F => ?_)
    unfold M_conciergeref24_Same_l0
    simp only [hx, Option.bind_some]
    rw [if_neg (by rw [decide_eq_true_eq]; omega)]
  | n + 1, k, h => by
    have hx : idx l (i : Int) = some r := idx_at _ _ _ hr
    have hk : k < r.2.2.1.length := by omega
    have hy : idx r.2.2.1 (k : Int) = some r.2.2.1[k] := idx_at _ _ _ (List.getElem?_eq_getElem hk)
    have hw : IntKind.i64.wrap ((k : Int) + 1) = ((k + 1 : Nat) : Int) := by rw [wrap64 _ (by omega) (by omega)]; omega
    refine TendsL.step (.of fun F => ?_) (same0_loop l hl i r hr hp n (k + 1) (by omega))
    unfold M_conciergeref24_Same_l0
    simp only [hx, Option.bind_some]
    rw [if_pos (by rw [decide_eq_true_eq]; omega)]
    simp only [hy, Option.bind_some, decide_true, Bool.and_self, Bool.not_true, Bool.false_eq_true, if_false, hw]
theorem same1_loop (l : List RlT) (hl : l.length ≤ 1000000) (hb : ∀ r ∈ l, bndQ r) : ∀ (n i : Nat), i + n = l.length → TendsL M_conciergeref24_Same_l1 (l, l, (i : Int), ()) (.inl ())
  | 0, i, h => by
    refine TendsL.fin (.of fun F => ?_)
    unfold M_conciergeref24_Same_l1
    rw [if_neg (by rw [decide_eq_true_eq]; simp only; omega)]
  | n + 1, i, h => by
    have hi : i < l.length := by omega
    have hg : l[i]? = some l[i] := List.getElem?_eq_getElem hi
    have hx : idx l (i : Int) = some l[i] := idx_at _ _ _ hg
    have hw : IntKind.i64.wrap ((i : Int) + 1) = ((i + 1 : Nat) : Int) := by rw [wrap64 _ (by omega) (by omega)]; omega
    have h0 := same0_loop l hl i l[i] hg (by have := (hb l[i] (List.getElem_mem hi)).2.2.1; omega) l[i].2.2.1.length 0 (by omega)
    refine TendsL.step ?_ (same1_loop l hl hb n (i + 1) (by omega))
    unfold M_conciergeref24_Same_l1
    refine Tends.pos (by rw [decide_eq_true_eq]; simp only; omega) ?_
    refine Tends.bind (r := ((l, l, (i : Int), false, ()) : List RlT × List RlT × Int × Bool × Unit)) (.of fun F => ?_) ?_
    · simp only [hx, Option.bind_some, decide_true, Bool.not_true, if_true]
    refine Tends.neg Bool.false_ne_true (Tends.bind h0.run (.of fun F => ?_))
    simp only [sumC_inl, hw]
theorem same_t (l : List RlT) (hl : l.length ≤ 1000000) (hb : ∀ r ∈ l, bndQ r) : Tends (fun F => M_conciergeref24_Same F (l, l)) true := by
  unfold M_conciergeref24_Same
  have h := same1_loop l hl hb l.length 0 (by omega)
  refine Tends.neg (by simp) (Tends.bind h.run (.ret _))
/-! ### small tables -/
theorem rule_meth {r : RlT} (h : ruleG r = true) : r.1.length ≤ 900 := by
  unfold ruleG at h
  simp only [Bool.and_eq_true] at h
  have h1 := h.1.1
  unfold methG at h1
  simp only [Bool.or_eq_true, Bool.and_eq_true, decide_eq_true_eq] at h1
  rcases h1 with h1 | ⟨h1, _⟩
  · rw [h1]; decide
  · unfold methF at h1
    split at h1
    · cases h1
    · rename_i hc
      omega
theorem routeFits_t (p s : By) : Tends (fun F => M_conciergelaw24_RouteFits F (p, s)) true := by
  unfold M_conciergelaw24_RouteFits
  refine Tends.bind awake24_t (Tends.neg (by decide) ?_)
  by_cases h1 : 100 < p.length
  · refine Tends.bind (r := ((p, s, true, ()) : By × By × Bool × Unit)) (Tends.neg (by rw [decide_eq_true (by simp only; omega)]; exact Bool.noConfusion) (.ret _)) ?_
    exact Tends.pos rfl (.ret _)
  refine Tends.bind (r := ((p, s, decide (100 < s.length), ()) : By × By × Bool × Unit)) (Tends.pos (decide_eq_false (by simp only; omega)) (.of fun F => ?_)) ?_
  · have e : decide ((100 : Int) < (s.length : Int)) = decide (100 < s.length) := by rw [Bool.eq_iff_iff, decide_eq_true_eq, decide_eq_true_eq]; omega
    simp only [e]
  by_cases h2 : 100 < s.length
  · exact Tends.pos (decide_eq_true h2) (.ret _)
  refine Tends.neg (by rw [decide_eq_true_eq]; exact h2) ?_
  refine Tends.bind (r := ((s, true, ()) : By × Bool × Unit)) ?_ ?_
  · refine Tends.bind (pattern_t p (by omega)) (Tends.bind (rpattern_t p (by omega)) (Tends.pos (by simp) ?_))
    refine Tends.bind (fits_t p s (by omega) (by omega)) (Tends.bind (rfits_t p s (by omega) (by omega)) (.of fun F => by simp))
  refine Tends.bind (r := ((true, ()) : Bool × Unit)) (Tends.pos rfl ?_) (.ret _)
  exact Tends.bind (fits_t s s (by omega) (by omega)) (Tends.bind (rfits_t s s (by omega) (by omega)) (.of fun F => by simp))
theorem pure_conciergelaw24_RouteFits (p s : By) : ∃ F, M_conciergelaw24_RouteFits F (p, s) = some true := (routeFits_t p s).ex
theorem routeAny_t (s : By) : Tends (fun F => M_conciergelaw24_RouteAny F s) true := by
  unfold M_conciergelaw24_RouteAny
  refine Tends.bind awake24_t (Tends.neg (by decide) ?_)
  by_cases h1 : 700 < s.length
  · exact Tends.pos (by rw [decide_eq_true_eq]; omega) (.ret _)
  refine Tends.neg (by rw [decide_eq_true_eq]; omega) ?_
  have hp := rparseR_t s (by omega)
  have hq := rparseR_t9 s (by omega)
  refine Tends.bind hp (Tends.bind hq ?_)
  rcases parseR_cases s with ⟨l, hm, hs, e⟩ | ⟨hn, e⟩
  · have e2 : rparseR s = (l, true) := by rw [hs]; exact rparseR_print l hm
    rw [e, e2]
    obtain ⟨_, h8, hr⟩ := mayR_all hm
    refine Tends.neg Bool.false_ne_true ?_
    refine Tends.bind (r := ((true, ()) : Bool × Unit)) (Tends.pos rfl (Tends.bind (same_t l (by omega) fun r hr' => ?_) (.ret _))) (.ret _)
    have hg := hr r hr'
    obtain ⟨q1, q2, _, _⟩ := rule_len hg
    have hm2 : mayG r.2.2.1 = true := by
      unfold ruleG at hg
      simp only [Bool.and_eq_true] at hg
      exact hg.2
    obtain ⟨m1, _, m3⟩ := may_right hm2
    exact ⟨rule_meth hg, by omega, by omega, fun p hp => right_bnd (m1 p hp)⟩
  · rw [e, rparseR_none s hn]
    exact Tends.pos rfl (Tends.bind (r := ((true, ()) : Bool × Unit)) (Tends.pos rfl (.of fun F => rfl)) (.ret _))
theorem pure_conciergelaw24_RouteAny (s : By) : ∃ F, M_conciergelaw24_RouteAny F s = some true := (routeAny_t s).ex
end Go.Vm
