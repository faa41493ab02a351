import Derived.Test.YtocgjbdimjlfhaaGreatDoorFlaw24
import Derived.Test.YtocgjbdimjlfhaaGreatDoorPr5
/- Tables: plain paths, the standard table, finding, small tables; the wake. No condition but on lengths. -/
namespace Go.Vm
open Go.Proofs
open Go.Lib (decDigits itoa)
set_option linter.unusedVariables false
set_option linter.unusedSimpArgs false
/-! ### plain paths -/
theorem splitL_splC (s : By) : splitL s = splC 47 s := (split_splitL s).symm.trans (split_splC 47 s)
theorem readL_plain : ∀ x : By, (∀ b ∈ x, plainB b = true) → readL x = some x
  | [], h => readL_nil
  | c :: x, h => by
    have hc := h c (List.mem_cons_self ..)
    rw [readL_c (by rintro rfl; exact absurd hc (by decide)), readL_plain x fun b hb => h b (List.mem_cons_of_mem _ hb)]
    rfl
theorem writeL_plain : ∀ x : By, (∀ b ∈ x, plainB b = true) → writeL x = x
  | [], h => rfl
  | c :: x, h => by
    have hc := h c (List.mem_cons_self ..)
    have ih := writeL_plain x fun b hb => h b (List.mem_cons_of_mem _ hb)
    show wr1 c ++ writeL x = c :: x
    rw [ih]
    unfold wr1
    rw [if_pos hc]
    rfl
theorem plain_tab2 : ∀ c : Fin 256, plainB (UInt8.ofNat c.val) = true → 33 ≤ c.val ∧ c.val ≤ 126 := by decide +kernel
theorem plain_pln {c : UInt8} (h : plainB c = true) : plnB c := by
  have := plain_tab2 ⟨c.toNat, c.toNat_lt⟩ (by simpa using h)
  exact this
theorem allS_pl (x : By) (h : ∀ b ∈ x, plainB b = true) : allS x = true := by
  have := allS_plain x.length x fun b hb => plain_pln (h b (List.mem_of_mem_take hb))
  rw [this, List.drop_length]
  exact allS_nil
theorem right_of' (s : By) (r : Int) (h0 : s ≠ []) (hr : (s.length : Int) ≤ r) (h : allS s = true) : rightB s r = true := by
  unfold rightB
  rw [if_neg (by rintro (h | h); exact h0 h; omega)]
  have : badN ((signs s).map (·.1)) = false := by
    rw [allS_map] at h
    unfold badN
    rw [List.any_eq_false]
    intro n hn
    have := List.all_eq_true.1 h n hn
    simpa using this
  unfold badR
  rw [this]
  rfl
def ownP (x : By) : Prop := x ≠ [] ∧ (∀ b ∈ x, plainB b = true) ∧ x ≠ [46] ∧ x ≠ [46, 46] ∧ x.length ≤ 60
theorem readF_own {x : By} (h : ownP x) : readF x = (x, true) := by
  obtain ⟨h0, h1, _, _, h4⟩ := h
  rw [readF_some (readL_plain x h1), right_of' x 60 h0 (by omega) (allS_pl x h1), Bool.or_true]
theorem walk_own : ∀ (ps out : List By), (∀ p ∈ ps, ownP p) → walkP ps out = some (out ++ ps)
  | [], out, h => by rw [walkP, List.append_nil]
  | p :: ps, out, h => by
    have hp := h p (List.mem_cons_self ..)
    have hr := readF_own hp
    obtain ⟨h0, _, h2, h3, _⟩ := hp
    rw [walkP, hr]
    simp only
    rw [if_neg (by simp), if_neg (by rintro (h | h); exact h0 h; exact h2 h), if_neg h3, walk_own ps _ fun q hq => h q (List.mem_cons_of_mem _ hq), List.append_assoc]
    rfl
theorem own_no47 {x : By} (h : ownP x) : ∀ b ∈ x, b ≠ 47 := by
  intro b hb
  have := h.2.1 b hb
  rintro rfl
  exact absurd this (by decide)
theorem joinP_own : ∀ ps : List By, ps ≠ [] → (∀ p ∈ ps, ownP p) → joinP ps = 47 :: joinD 47 ps
  | [], h, _ => absurd rfl h
  | [p], _, h => by
    show (47 :: writeL p) ++ [] = 47 :: p
    rw [List.append_nil, writeL_plain p (h p (List.mem_cons_self ..)).2.1]
  | p :: q :: r, _, h => by
    show (47 :: writeL p) ++ joinP (q :: r) = _
    rw [joinP_own (q :: r) (by simp) fun x hx => h x (List.mem_cons_of_mem _ hx), writeL_plain p (h p (List.mem_cons_self ..)).2.1, joinD_cons 47 p (by simp)]
    rfl
theorem form_own (ps : List By) (h0 : ps ≠ []) (h : ∀ p ∈ ps, ownP p) (hl : (joinD 47 ps).length ≤ 59) : formG (47 :: joinD 47 ps) = true := by
  have hs : splitL (joinD 47 ps) = ps := by rw [splitL_splC]; exact splC_join ps h0 fun p hp => own_no47 (h p hp)
  have hp : pathF (47 :: joinD 47 ps) = (47 :: joinD 47 ps, true) := by
    rw [pathF_in (by have := hl; omega), hs, walk_own ps [] h, List.nil_append]
    simp only
    unfold finP
    rw [joinP_own ps h0 h, if_neg (show ¬ (47 :: joinD 47 ps : By) = [] by simp), if_neg (show ¬ 60 < (47 :: joinD 47 ps : By).length by rw [List.length_cons]; omega)]
  unfold formG
  rw [hp]
  simp
abbrev wPost : By := [80, 79, 83, 84]
abbrev wGet : By := [71, 69, 84]
abbrev wPay : By := [112, 97, 121]
abbrev wNote : By := [110, 111, 116, 101]
abbrev tSum : By := [37, 123, 115, 117, 109, 125]
def stdP1 : List PhT := [(2, [115, 117, 109], 1000, [], ()), (3, [100, 101, 98, 105, 116], 0, tSum, ()), (3, [99, 114, 101, 100, 105, 116], 0, tSum, ()), (4, [], 201, [112, 97, 105, 100, 32, 37, 123, 115, 117, 109, 125], ())]
def stdP2 : List PhT := [(1, [], 40, [], ()), (3, [119, 114, 105, 116, 101], 0, [37, 98], ()), (4, [], 200, [110, 111, 116, 101, 100, 32, 37, 112], ())]
def stdP3 : List PhT := [(4, [], 200, [37, 109, 32, 37, 112], ())]
def stdR : List RlT := [(wPost, 47 :: wPay, stdP1, ()), (wPost, 47 :: (wNote ++ [47, 42]), stdP2, ()), (wGet, [47, 42, 42], stdP3, ())]
abbrev stdS : By := [80, 79, 83, 84, 32, 47, 112, 97, 121, 58, 32, 110, 101, 101, 100, 32, 115, 117, 109, 32, 49, 48, 48, 48, 59, 32, 99, 97, 108, 108, 32, 100, 101, 98, 105, 116, 32, 37, 123, 115, 117, 109, 125, 59, 32, 99, 97, 108, 108, 32, 99, 114, 101, 100, 105, 116, 32, 37, 123, 115, 117, 109, 125, 59, 32, 101, 110, 100, 32, 50, 48, 49, 32, 112, 97, 105, 100, 32, 37, 123, 115, 117, 109, 125, 10, 80, 79, 83, 84, 32, 47, 110, 111, 116, 101, 47, 42, 58, 32, 111, 110, 108, 121, 32, 52, 48, 59, 32, 99, 97, 108, 108, 32, 119, 114, 105, 116, 101, 32, 37, 98, 59, 32, 101, 110, 100, 32, 50, 48, 48, 32, 110, 111, 116, 101, 100, 32, 37, 112, 10, 71, 69, 84, 32, 47, 42, 42, 58, 32, 101, 110, 100, 32, 50, 48, 48, 32, 37, 109, 32, 37, 112]
theorem dd2 {i : Nat} (h1 : ¬ i < 10) (h2 : i < 100) : decDigits i = [UInt8.ofNat (48 + i / 10), UInt8.ofNat (48 + i % 10)] := Go.Lib.decDigits_two h1 h2
theorem dd3 {i : Nat} (h1 : ¬ i < 100) (h2 : i < 1000) : decDigits i = [UInt8.ofNat (48 + i / 10 / 10), UInt8.ofNat (48 + i / 10 % 10), UInt8.ofNat (48 + i % 10)] := by
  rw [decDigits, dif_neg (by omega), dd2 (by omega) (by omega)]
  rfl
theorem itoa_40 : itoa 40 = [52, 48] := by unfold itoa; rw [if_neg (by decide)]; exact dd2 (by decide) (by decide)
theorem itoa_200 : itoa 200 = [50, 48, 48] := by unfold itoa; rw [if_neg (by decide)]; exact dd3 (by decide) (by decide)
theorem itoa_201 : itoa 201 = [50, 48, 49] := by unfold itoa; rw [if_neg (by decide)]; exact dd3 (by decide) (by decide)
theorem itoa_1000 : itoa 1000 = [49, 48, 48, 48] := by
  unfold itoa
  rw [if_neg (by decide)]
  show decDigits 1000 = _
  rw [decDigits, dif_neg (by decide), show (1000 : Nat) / 10 = 100 from rfl, dd3 (by decide) (by decide)]
  rfl
theorem std_1 : printG stdP1 = [110, 101, 101, 100, 32, 115, 117, 109, 32, 49, 48, 48, 48, 59, 32, 99, 97, 108, 108, 32, 100, 101, 98, 105, 116, 32, 37, 123, 115, 117, 109, 125, 59, 32, 99, 97, 108, 108, 32, 99, 114, 101, 100, 105, 116, 32, 37, 123, 115, 117, 109, 125, 59, 32, 101, 110, 100, 32, 50, 48, 49, 32, 112, 97, 105, 100, 32, 37, 123, 115, 117, 109, 125] := by
  have h1 : phText (2, [115, 117, 109], 1000, [], ()) = wNeed ++ 32 :: ([115, 117, 109] ++ 32 :: itoa 1000) := rfl
  have h4 : phText (4, [], 201, [112, 97, 105, 100, 32, 37, 123, 115, 117, 109, 125], ()) = wEnd ++ 32 :: (itoa 201 ++ tailG [112, 97, 105, 100, 32, 37, 123, 115, 117, 109, 125]) := rfl
  unfold printG stdP1
  simp only [List.map_cons, List.map_nil, h1, h4, itoa_1000, itoa_201]
  decide
theorem std_2 : printG stdP2 = [111, 110, 108, 121, 32, 52, 48, 59, 32, 99, 97, 108, 108, 32, 119, 114, 105, 116, 101, 32, 37, 98, 59, 32, 101, 110, 100, 32, 50, 48, 48, 32, 110, 111, 116, 101, 100, 32, 37, 112] := by
  have h1 : phText (1, [], 40, [], ()) = wOnly ++ 32 :: itoa 40 := rfl
  have h4 : phText (4, [], 200, [110, 111, 116, 101, 100, 32, 37, 112], ()) = wEnd ++ 32 :: (itoa 200 ++ tailG [110, 111, 116, 101, 100, 32, 37, 112]) := rfl
  unfold printG stdP2
  simp only [List.map_cons, List.map_nil, h1, h4, itoa_40, itoa_200]
  decide
theorem std_3 : printG stdP3 = [101, 110, 100, 32, 50, 48, 48, 32, 37, 109, 32, 37, 112] := by
  have h4 : phText (4, [], 200, [37, 109, 32, 37, 112], ()) = wEnd ++ 32 :: (itoa 200 ++ tailG [37, 109, 32, 37, 112]) := rfl
  unfold printG stdP3
  simp only [List.map_cons, List.map_nil, h4, itoa_200]
  decide
theorem std_print : printR stdR = stdS := by
  unfold printR stdR
  simp only [List.map_cons, List.map_nil, lineG, std_1, std_2, std_3]
  kernel_rfl
theorem own_pay : ownP wPay := ⟨by decide, by decide, by decide, by decide, by decide⟩
theorem own_note : ownP wNote := ⟨by decide, by decide, by decide, by decide, by decide⟩
theorem own_a : ownP [97] := ⟨by decide, by decide, by decide, by decide, by decide⟩
theorem form_pay : formG (47 :: wPay) = true := form_own [wPay] (by simp) (by intro p hp; rw [List.mem_singleton] at hp; subst hp; exact own_pay) (by decide)
theorem form_note : formG (47 :: wNote) = true := form_own [wNote] (by simp) (by intro p hp; rw [List.mem_singleton] at hp; subst hp; exact own_note) (by decide)
abbrev wNoteA : By := [47, 110, 111, 116, 101, 47, 97]
theorem form_noteA : formG wNoteA = true := form_own [wNote, [97]] (by simp) (by
  intro p hp
  rcases List.mem_cons.1 hp with rfl | hp
  · exact own_note
  · rw [List.mem_singleton] at hp; subst hp; exact own_a) (by decide)
theorem pat_pay : patG (47 :: wPay) = true := by
  have e : partsG (47 :: wPay) = [wPay] := by decide
  unfold patG
  rw [e]
  unfold patL
  rw [form_pay]
  decide
theorem pat_note : patG (47 :: (wNote ++ [47, 42])) = true := by
  have e : partsG (47 :: (wNote ++ [47, 42])) = [wNote, [42]] := by decide
  unfold patG
  rw [e]
  unfold patL
  rw [form_note]
  unfold patL
  decide
theorem pat_all : patG [47, 42, 42] = true := by
  have e : partsG [47, 42, 42] = [[42, 42]] := by decide
  unfold patG
  rw [e]
  unfold patL
  rw [decide_eq_true (show ([42, 42] : By) = [42, 42] from rfl), decide_eq_true (show ([] : List By) = [] from rfl)]
  rfl
theorem may_1 : mayG stdP1 = true := by kernel_rfl
theorem may_2 : mayG stdP2 = true := by kernel_rfl
theorem may_3 : mayG stdP3 = true := by kernel_rfl
theorem meth_post : methG wPost = true := by kernel_rfl
theorem meth_get : methG wGet = true := by kernel_rfl
theorem std_may : mayR stdR = true := by
  unfold mayR stdR ruleG
  simp only [List.all_cons, List.all_nil, meth_post, meth_get, pat_pay, pat_note, pat_all, may_1, may_2, may_3]
  rfl
theorem std_bnd : ∀ r ∈ stdR, bndQ r := by
  intro r hr
  have hg := (mayR_all std_may).2.2 r hr
  obtain ⟨q1, q2, _, _⟩ := rule_len hg
  have hm : mayG r.2.2.1 = true := by
    unfold ruleG at hg
    simp only [Bool.and_eq_true] at hg
    exact hg.2
  obtain ⟨m1, _, m3⟩ := may_right hm
  refine ⟨?_, by omega, by omega, fun p hp => right_bnd (m1 p hp)⟩
  unfold stdR at hr
  simp only [List.mem_cons, List.not_mem_nil, or_false] at hr
  rcases hr with rfl | rfl | rfl <;> decide
theorem standard_t : Tends (fun F => M_route_Standard F ()) stdR := by
  have h := rparseR_t stdS (of_decide_eq_true (by kernel_rfl))
  rw [← std_print, parseR_print stdR std_may] at h
  unfold M_route_Standard
  rw [std_print] at h
  exact Tends.bind h (.ret _)
theorem find_1 : findV stdR wPost wNoteA = 1 := by
  have f0 : fitsB (wPost, 47 :: wPay, stdP1, ()) wPost wNoteA = false := by
    have : fitsL (partsG (47 :: wPay)) (partsG wNoteA) = false := by decide
    unfold fitsB fitsG
    simp only [this, Bool.and_false]
  have f1 : fitsB (wPost, 47 :: (wNote ++ [47, 42]), stdP2, ()) wPost wNoteA = true := by
    have : fitsL (partsG (47 :: (wNote ++ [47, 42]))) (partsG wNoteA) = true := by decide
    unfold fitsB fitsG
    simp only [this, pat_note, form_noteA, Bool.and_true]
    decide
  unfold findV stdR findG
  rw [f0, if_neg Bool.false_ne_true]
  unfold findG
  rw [f1, if_pos rfl]
  rfl
theorem find_2 : findV stdR wGet wNoteA = 2 := by
  have f0 : fitsB (wPost, 47 :: wPay, stdP1, ()) wGet wNoteA = false := by
    have : (decide (wPost = wGet) || decide (wPost = [42])) = false := by decide
    unfold fitsB
    simp only [this, Bool.false_and]
  have f1 : fitsB (wPost, 47 :: (wNote ++ [47, 42]), stdP2, ()) wGet wNoteA = false := by
    have : (decide (wPost = wGet) || decide (wPost = [42])) = false := by decide
    unfold fitsB
    simp only [this, Bool.false_and]
  have f2 : fitsB (wGet, [47, 42, 42], stdP3, ()) wGet wNoteA = true := by
    have : fitsL (partsG [47, 42, 42]) (partsG wNoteA) = true := by decide
    unfold fitsB fitsG
    simp only [this, pat_all, form_noteA, Bool.and_true]
    decide
  unfold findV stdR findG
  rw [f0, if_neg Bool.false_ne_true]
  unfold findG
  rw [f1, if_neg Bool.false_ne_true]
  unfold findG
  rw [f2, if_pos rfl]
  rfl
theorem find_3 : findV stdR wGet [47] = -1 := by
  have f0 : fitsB (wPost, 47 :: wPay, stdP1, ()) wGet [47] = false := by
    have : (decide (wPost = wGet) || decide (wPost = [42])) = false := by decide
    unfold fitsB
    simp only [this, Bool.false_and]
  have f1 : fitsB (wPost, 47 :: (wNote ++ [47, 42]), stdP2, ()) wGet [47] = false := by
    have : (decide (wPost = wGet) || decide (wPost = [42])) = false := by decide
    unfold fitsB
    simp only [this, Bool.false_and]
  have f2 : fitsB (wGet, [47, 42, 42], stdP3, ()) wGet [47] = false := by
    have : fitsL (partsG [47, 42, 42]) (partsG [47]) = false := by decide
    unfold fitsB fitsG
    simp only [this, Bool.and_false]
  unfold findV stdR findG
  rw [f0, if_neg Bool.false_ne_true]
  unfold findG
  rw [f1, if_neg Bool.false_ne_true]
  unfold findG
  rw [f2, if_neg Bool.false_ne_true]
  rfl
theorem awake24_t : Tends (fun F => M_conciergelaw24_awake F ()) true := by
  have hb : ∀ r ∈ stdR, bndR r := fun r hr => (std_bnd r hr).r
  have hp := rprintR_t stdR (by decide) hb
  rw [if_pos std_may, std_print] at hp
  have f1 := find_v stdR wPost wNoteA (by decide) hb (by decide)
  rw [find_1] at f1
  have f2 := find_v stdR wGet wNoteA (by decide) hb (by decide)
  rw [find_2] at f2
  have f3 := find_v stdR wGet [47] (by decide) hb (by decide)
  rw [find_3] at f3
  unfold M_conciergelaw24_awake
  refine Tends.bind standard_t (Tends.bind hp ?_)
  refine Tends.bind (r := ((stdR, true, ()) : List RlT × Bool × Unit)) (Tends.pos rfl (.of fun F => rfl)) ?_
  refine Tends.bind (r := ((stdR, true, ()) : List RlT × Bool × Unit)) (Tends.pos rfl (Tends.bind f1 (.ret _))) ?_
  refine Tends.bind (r := ((stdR, true, ()) : List RlT × Bool × Unit)) (Tends.pos rfl (Tends.bind f2 (.ret _))) ?_
  exact Tends.bind (r := ((true, ()) : Bool × Unit)) (Tends.pos rfl (Tends.bind f3 (.ret _))) (.ret _)
end Go.Vm
/- Tables: the laws of fits, of any text, and of tables there and back. No condition but on lengths. -/
namespace Go.Vm
open Go.Proofs
set_option linter.unusedVariables false
set_option linter.unusedSimpArgs false
/-! ### the same -/
theorem same0_loop (l : List RlT) (hl : l.length ≤ 1000000) (i : Nat) (r : RlT) (hr : l[i]? = some r) (hp : r.2.2.1.length ≤ 1000000) : ∀ (n k : Nat), k + n = r.2.2.1.length → TendsL M_conciergeref24_Same_l0 (l, l, (i : Int), (k : Int), ()) (.inl (l, l, (i : Int), ()))
  | 0, k, h => by
    have hx : idx l (i : Int) = some r := idx_at _ _ _ hr
    refine TendsL.fin (.of fun F => ?_)
    unfold M_conciergeref24_Same_l0
    simp only [hx, Option.bind_some]
    rw [if_neg (by rw [decide_eq_true_eq]; omega)]
  | n + 1, k, h => by
    have hx : idx l (i : Int) = some r := idx_at _ _ _ hr
    have hk : k < r.2.2.1.length := by omega
    have hy : idx r.2.2.1 (k : Int) = some r.2.2.1[k] := idx_at _ _ _ (List.getElem?_eq_getElem hk)
    have hw : IntKind.i64.wrap ((k : Int) + 1) = ((k + 1 : Nat) : Int) := by rw [wrap64 _ (by omega) (by omega)]; omega
    refine TendsL.step (.of fun F => ?_) (same0_loop l hl i r hr hp n (k + 1) (by omega))
    unfold M_conciergeref24_Same_l0
    simp only [hx, Option.bind_some]
    rw [if_pos (by rw [decide_eq_true_eq]; omega)]
    simp only [hy, Option.bind_some, decide_true, Bool.and_self, Bool.not_true, Bool.false_eq_true, if_false, hw]
theorem same1_loop (l : List RlT) (hl : l.length ≤ 1000000) (hb : ∀ r ∈ l, bndQ r) : ∀ (n i : Nat), i + n = l.length → TendsL M_conciergeref24_Same_l1 (l, l, (i : Int), ()) (.inl ())
  | 0, i, h => by
    refine TendsL.fin (.of fun F => ?_)
    unfold M_conciergeref24_Same_l1
    rw [if_neg (by rw [decide_eq_true_eq]; simp only; omega)]
  | n + 1, i, h => by
    have hi : i < l.length := by omega
    have hg : l[i]? = some l[i] := List.getElem?_eq_getElem hi
    have hx : idx l (i : Int) = some l[i] := idx_at _ _ _ hg
    have hw : IntKind.i64.wrap ((i : Int) + 1) = ((i + 1 : Nat) : Int) := by rw [wrap64 _ (by omega) (by omega)]; omega
    have h0 := same0_loop l hl i l[i] hg (by have := (hb l[i] (List.getElem_mem hi)).2.2.1; omega) l[i].2.2.1.length 0 (by omega)
    refine TendsL.step ?_ (same1_loop l hl hb n (i + 1) (by omega))
    unfold M_conciergeref24_Same_l1
    refine Tends.pos (by rw [decide_eq_true_eq]; simp only; omega) ?_
    refine Tends.bind (r := ((l, l, (i : Int), false, ()) : List RlT × List RlT × Int × Bool × Unit)) (.of fun F => ?_) ?_
    · simp only [hx, Option.bind_some, decide_true, Bool.not_true, if_true]
    refine Tends.neg Bool.false_ne_true (Tends.bind h0.run (.of fun F => ?_))
    simp only [sumC_inl, hw]
theorem same_t (l : List RlT) (hl : l.length ≤ 1000000) (hb : ∀ r ∈ l, bndQ r) : Tends (fun F => M_conciergeref24_Same F (l, l)) true := by
  unfold M_conciergeref24_Same
  have h := same1_loop l hl hb l.length 0 (by omega)
  refine Tends.neg (by simp) (Tends.bind h.run (.ret _))
/-! ### small tables -/
def small23 (p : List PhT) : Bool := decide (p.length ≤ 10) && p.all fun x => decide (x.2.1.length ≤ 100) && decide (x.2.2.2.1.length ≤ 100)
theorem small23_loop (l : List PhT) (hl : l.length ≤ 1000000) : ∀ (n i : Nat), i + n = l.length → TendsL M_conciergelaw23_Small_l0 (l, (l.length : Int), (i : Int), ()) (if (l.drop i).all (fun x => decide (x.2.1.length ≤ 100) && decide (x.2.2.2.1.length ≤ 100)) = true then .inl () else .inr (false, ()))
  | 0, i, h => by
    refine TendsL.fin (.of fun F => ?_)
    unfold M_conciergelaw23_Small_l0
    rw [if_neg (by rw [decide_eq_true_eq]; simp only; omega), List.drop_eq_nil_of_le (by omega)]
    rfl
  | n + 1, i, h => by
    have hi : i < l.length := by omega
    have hx : idx l (i : Int) = some l[i] := idx_at _ _ _ (List.getElem?_eq_getElem hi)
    have hw : IntKind.i64.wrap ((i : Int) + 1) = ((i + 1 : Nat) : Int) := by rw [wrap64 _ (by omega) (by omega)]; omega
    have ih := small23_loop l hl n (i + 1) (by omega)
    rw [List.drop_eq_getElem_cons hi, List.all_cons]
    generalize l[i] = x at *
    have hbody : ∀ F, M_conciergelaw23_Small_l0 F (l, (l.length : Int), (i : Int), ()) = some (if (decide (x.2.1.length ≤ 100) && decide (x.2.2.2.1.length ≤ 100)) = true then .inl (l, (l.length : Int), ((i + 1 : Nat) : Int), ()) else .inr (.inr (false, ()))) := by
      intro F
      unfold M_conciergelaw23_Small_l0
      rw [if_pos (by rw [decide_eq_true_eq]; simp only; omega)]
      have e1 : ∀ a : By, (100 : Int) < (a.length : Int) ↔ ¬ a.length ≤ 100 := fun a => by omega
      simp only [hx, Option.bind_some, e1]
      by_cases a1 : x.2.1.length ≤ 100
      · by_cases a2 : x.2.2.2.1.length ≤ 100 <;> simp [a1, a2, hw]
      · simp [a1]
    cases hc : (decide (x.2.1.length ≤ 100) && decide (x.2.2.2.1.length ≤ 100)) with
    | true =>
      rw [Bool.true_and]
      exact TendsL.step (.of fun F => (hbody F).trans (by rw [hc, if_pos rfl])) ih
    | false =>
      rw [Bool.false_and]
      exact TendsL.fin (.of fun F => (hbody F).trans (by rw [hc]; rfl))
theorem small23_t (l : List PhT) : Tends (fun F => M_conciergelaw23_Small F l) (small23 l) := by
  unfold M_conciergelaw23_Small small23
  by_cases h10 : l.length ≤ 10
  · rw [decide_eq_true h10, Bool.true_and]
    refine Tends.neg (by rw [decide_eq_true_eq]; omega) ?_
    have h := small23_loop l (by omega) l.length 0 (by omega)
    rw [List.drop_zero] at h
    refine Tends.bind h.run ?_
    cases hb : l.all (fun x => decide (x.2.1.length ≤ 100) && decide (x.2.2.2.1.length ≤ 100)) <;> exact .ret _
  · rw [decide_eq_false h10, Bool.false_and]
    exact Tends.pos (by rw [decide_eq_true_eq]; omega) (.ret _)
def smallR (l : List RlT) : Bool := decide (l.length ≤ 10) && l.all fun r => decide (r.1.length ≤ 100) && decide (r.2.1.length ≤ 100) && small23 r.2.2.1
theorem smallR_loop (l : List RlT) (hl : l.length ≤ 1000000) : ∀ (n i : Nat), i + n = l.length → TendsL M_conciergelaw24_Small_l0 (l, (l.length : Int), (i : Int), ()) (if (l.drop i).all (fun r => decide (r.1.length ≤ 100) && decide (r.2.1.length ≤ 100) && small23 r.2.2.1) = true then .inl () else .inr (false, ()))
  | 0, i, h => by
    refine TendsL.fin (.of fun F => ?_)
    unfold M_conciergelaw24_Small_l0
    rw [if_neg (by rw [decide_eq_true_eq]; simp only; omega), List.drop_eq_nil_of_le (by omega)]
    rfl
  | n + 1, i, h => by
    have hi : i < l.length := by omega
    have hx : idx l (i : Int) = some l[i] := idx_at _ _ _ (List.getElem?_eq_getElem hi)
    have hw : IntKind.i64.wrap ((i : Int) + 1) = ((i + 1 : Nat) : Int) := by rw [wrap64 _ (by omega) (by omega)]; omega
    have ih := smallR_loop l hl n (i + 1) (by omega)
    rw [List.drop_eq_getElem_cons hi, List.all_cons]
    generalize l[i] = r at *
    obtain ⟨m, p, pr, u⟩ := r
    have hs := small23_t pr
    have hbody : Tends (fun F => M_conciergelaw24_Small_l0 F (l, (l.length : Int), (i : Int), ())) (if (decide (m.length ≤ 100) && decide (p.length ≤ 100) && small23 pr) = true then .inl (l, (l.length : Int), ((i + 1 : Nat) : Int), ()) else .inr (.inr (false, ()))) := by
      unfold M_conciergelaw24_Small_l0
      refine Tends.pos (by rw [decide_eq_true_eq]; simp only; omega) (Tends.bind (.of fun F => hx) ?_)
      refine Tends.bind (r := (((), l, (l.length : Int), (i : Int), !(decide (m.length ≤ 100) && decide (p.length ≤ 100)), (m, p, pr, ()), ()) : Unit × List RlT × Int × Int × Bool × RlT × Unit)) (.of fun F => ?_) ?_
      · have e1 : ∀ a : By, (100 : Int) < (a.length : Int) ↔ ¬ a.length ≤ 100 := fun a => by omega
        simp only [e1]
        by_cases a1 : m.length ≤ 100 <;> by_cases a2 : p.length ≤ 100 <;> simp [a1, a2]
      refine Tends.bind (r := ((l, (l.length : Int), (i : Int), !(decide (m.length ≤ 100) && decide (p.length ≤ 100) && small23 pr), ()) : List RlT × Int × Int × Bool × Unit)) ?_ ?_
      · cases (decide (m.length ≤ 100) && decide (p.length ≤ 100)) with
        | true => exact Tends.pos rfl (Tends.bind hs (.ret _))
        | false => exact Tends.neg Bool.noConfusion (.ret _)
      · cases (decide (m.length ≤ 100) && decide (p.length ≤ 100) && small23 pr) with
        | true => exact Tends.neg Bool.false_ne_true (.of fun F => by simp only [hw, if_true])
        | false => exact Tends.pos rfl (.ret _)
    show TendsL _ _ (if ((decide (m.length ≤ 100) && decide (p.length ≤ 100) && small23 pr) && _) = true then _ else _)
    cases hc : (decide (m.length ≤ 100) && decide (p.length ≤ 100) && small23 pr) with
    | true =>
      rw [hc, if_pos rfl] at hbody
      rw [Bool.true_and]
      exact TendsL.step hbody ih
    | false =>
      rw [hc, if_neg Bool.false_ne_true] at hbody
      rw [Bool.false_and, if_neg Bool.false_ne_true]
      exact TendsL.fin hbody
theorem smallR_t (l : List RlT) : Tends (fun F => M_conciergelaw24_Small F l) (smallR l) := by
  unfold M_conciergelaw24_Small smallR
  by_cases h10 : l.length ≤ 10
  · rw [decide_eq_true h10, Bool.true_and]
    refine Tends.neg (by rw [decide_eq_true_eq]; omega) ?_
    have h := smallR_loop l (by omega) l.length 0 (by omega)
    rw [List.drop_zero] at h
    refine Tends.bind h.run ?_
    cases hb : l.all (fun r => decide (r.1.length ≤ 100) && decide (r.2.1.length ≤ 100) && small23 r.2.2.1) <;> exact .ret _
  · rw [decide_eq_false h10, Bool.false_and]
    exact Tends.pos (by rw [decide_eq_true_eq]; omega) (.ret _)
theorem smallR_bnd {l : List RlT} (h : smallR l = true) : l.length ≤ 10 ∧ ∀ r ∈ l, bndQ r := by
  unfold smallR at h
  rw [Bool.and_eq_true, decide_eq_true_eq] at h
  refine ⟨h.1, fun r hr => ?_⟩
  have := List.all_eq_true.1 h.2 r hr
  simp only [Bool.and_eq_true, decide_eq_true_eq] at this
  obtain ⟨⟨h1, h2⟩, h3⟩ := this
  unfold small23 at h3
  rw [Bool.and_eq_true, decide_eq_true_eq] at h3
  refine ⟨by omega, by omega, by omega, fun p hp => ?_⟩
  have := List.all_eq_true.1 h3.2 p hp
  simp only [Bool.and_eq_true, decide_eq_true_eq] at this
  exact ⟨by omega, by omega⟩
/-! ### the laws -/
theorem rparseR_tt (l : List RlT) (hm : mayR l = true) : Tends (fun F => M_route_Parse F (printR l)) (l, 0) := by
  obtain ⟨h0, h8, h1⟩ := mayR_all hm
  have hlen := printR_len hm
  have hsc : splC 10 (printR l) = l.map lineG := splC_join _ (by simpa using h0) fun x hx => by
    obtain ⟨r, hr, rfl⟩ := List.mem_map.1 hx
    exact line_no10 (h1 r hr)
  have hx : ∀ x ∈ l.map lineG, x.length ≤ 1000 := fun x hx => by
    obtain ⟨r, hr, rfl⟩ := List.mem_map.1 hx
    exact (rule_len (h1 r hr)).2.2.2
  have hsp : ∀ F, M_strings_Split F (printR l, [10]) = some (l.map lineG) := by
    intro F
    unfold M_strings_Split MSplit
    rw [if_pos (decide_eq_true (by simp only; omega)), if_pos (by rfl), split_splC, hsc]
  have hlp := lines_parse l h1
  unfold M_route_Parse
  refine Tends.bind (.of hsp) ?_
  have h := parseR_loop (l.map lineG) (by rw [List.length_map]; omega) hx (l.map lineG).length 0 [] (by omega) (Nat.zero_le _)
  rw [List.drop_zero, hlp] at h
  refine Tends.bind h.run ?_
  obtain ⟨b1, b2⟩ := lines_bnd (l.map lineG) l hx hlp
  show Tends _ ((l, 0) : List RlT × Int)
  have hmr := rmayR_t l (by omega) b2
  rw [hm] at hmr
  exact Tends.bind hmr (Tends.neg (by decide) (.ret _))
theorem routeBack_t (l : List RlT) : Tends (fun F => M_conciergelaw24_RouteBack F l) true := by
  unfold M_conciergelaw24_RouteBack
  refine Tends.bind awake24_t (Tends.neg (by decide) ?_)
  refine Tends.bind (smallR_t l) ?_
  by_cases hs : smallR l = true
  case neg =>
    have hs' : smallR l = false := by simpa using hs
    rw [hs']
    exact Tends.pos rfl (.ret _)
  obtain ⟨hl, hb⟩ := smallR_bnd hs
  have hbr : ∀ r ∈ l, bndR r := fun r hr => (hb r hr).r
  rw [hs]
  refine Tends.neg (by decide) ?_
  refine Tends.bind (rprintR_t l (by omega) hbr) (Tends.bind (rrmay_t l (by omega) hb) ?_)
  by_cases hm : mayR l = true
  · rw [if_pos hm, hm]
    refine Tends.neg (by decide) ?_
    have hlen := printR_len hm
    refine Tends.bind (rparseR_tt l hm) ?_
    refine Tends.bind (r := ((l, l, 0, true, ()) : List RlT × List RlT × Int × Bool × Unit)) (Tends.pos rfl (Tends.bind (rrprint_t l hm) (.of fun F => by simp))) ?_
    have hm2 := rmayR_t l (by omega) hbr
    rw [hm] at hm2
    refine Tends.bind (r := ((l, l, 0, true, ()) : List RlT × List RlT × Int × Bool × Unit)) (Tends.pos rfl (Tends.bind hm2 (.ret _))) ?_
    refine Tends.bind (r := ((l, l, true, ()) : List RlT × List RlT × Bool × Unit)) (Tends.pos rfl (.of fun F => rfl)) ?_
    exact Tends.bind (r := ((true, ()) : Bool × Unit)) (Tends.pos rfl (Tends.bind (same_t l (by omega) hb) (.ret _))) (.ret _)
  · have hm' : mayR l = false := by simpa using hm
    rw [if_neg hm, hm']
    refine Tends.pos rfl ?_
    refine Tends.bind (r := ((l, true, ()) : List RlT × Bool × Unit)) (Tends.pos rfl (.of fun F => rfl)) ?_
    have hm2 := rmayR_t l (by omega) hbr
    rw [hm'] at hm2
    exact Tends.bind (r := ((true, ()) : Bool × Unit)) (Tends.pos rfl (Tends.bind hm2 (.ret _))) (.ret _)
theorem pure_conciergelaw24_RouteBack (l : List RlT) : ∃ F, M_conciergelaw24_RouteBack F l = some true := (routeBack_t l).ex
end Go.Vm
/- Tables: the law of what is found. No condition but on lengths. -/
namespace Go.Vm
open Go.Proofs
set_option linter.unusedVariables false
set_option linter.unusedSimpArgs false
theorem rfindR_loop (l : List RlT) (m s : By) (hl : l.length ≤ 1000000) (hb : ∀ r ∈ l, bndQ r) (hs : s.length ≤ 900) : ∀ (n i : Nat), i + n = l.length → TendsL M_conciergeref24_Find_l0 (l, m, s, (i : Int), ()) (findG m s (l.drop i) i)
  | 0, i, h => by
    refine TendsL.fin (.of fun F => ?_)
    unfold M_conciergeref24_Find_l0
    rw [if_neg (by rw [decide_eq_true_eq]; simp only; omega), List.drop_eq_nil_of_le (by omega)]
    rfl
  | n + 1, i, h => by
    have hi : i < l.length := by omega
    have hx : idx l (i : Int) = some l[i] := idx_at _ _ _ (List.getElem?_eq_getElem hi)
    have hw : IntKind.i64.wrap ((i : Int) + 1) = ((i + 1 : Nat) : Int) := by rw [wrap64 _ (by omega) (by omega)]; omega
    have ih := rfindR_loop l m s hl hb hs n (i + 1) (by omega)
    obtain ⟨b1, b2, b3, b4⟩ := hb l[i] (List.getElem_mem hi)
    rw [List.drop_eq_getElem_cons hi]
    generalize l[i] = r at *
    obtain ⟨rm, rp, pr, u⟩ := r
    simp only at b1 b2
    unfold findG
    have hbody : Tends (fun F => M_conciergeref24_Find_l0 F (l, m, s, (i : Int), ())) (if fitsB (rm, rp, pr, u) m s = true then .inr (.inr ((i : Int), ())) else .inl (l, m, s, ((i + 1 : Nat) : Int), ())) := by
      unfold M_conciergeref24_Find_l0 fitsB
      refine Tends.pos (by rw [decide_eq_true_eq]; simp only; omega) ?_
      refine Tends.bind (r := ((l, m, s, (i : Int), decide (rm = m) || decide (rm = [42]), ()) : List RlT × By × By × Int × Bool × Unit)) (Tends.bind (.of fun F => hx) (.of fun F => ?_)) ?_
      · by_cases c1 : rm = m
        · rw [if_neg (by rw [decide_eq_true c1]; exact Bool.noConfusion), decide_eq_true c1]; rfl
        · rw [if_pos (decide_eq_false c1), decide_eq_false c1, Bool.false_or]
          simp only [hx, Option.bind_some]
      refine Tends.bind (r := ((l, m, s, (i : Int), (decide (rm = m) || decide (rm = [42])) && fitsG rp s, ()) : List RlT × By × By × Int × Bool × Unit)) ?_ ?_
      · cases (decide (rm = m) || decide (rm = [42])) with
        | true => exact Tends.pos rfl (Tends.bind (.of fun F => hx) (Tends.bind (rfits_t rp s b2 hs) (.ret _)))
        | false => exact Tends.neg Bool.false_ne_true (.ret _)
      · show Tends _ (if ((decide (rm = m) || decide (rm = [42])) && fitsG rp s) = true then _ else _)
        cases ((decide (rm = m) || decide (rm = [42])) && fitsG rp s) with
        | true => exact Tends.pos rfl (.ret _)
        | false => exact Tends.neg Bool.false_ne_true (.of fun F => by simp only [hw]; rfl)
    cases hc : fitsB (rm, rp, pr, u) m s with
    | true =>
      rw [hc, if_pos rfl] at hbody
      exact TendsL.fin hbody
    | false =>
      rw [hc, if_neg Bool.false_ne_true] at hbody
      exact TendsL.step hbody ih
theorem rfind_v (l : List RlT) (m s : By) (hl : l.length ≤ 1000000) (hb : ∀ r ∈ l, bndQ r) (hs : s.length ≤ 900) : Tends (fun F => M_conciergeref24_Find F (l, m, s)) (findV l m s) := by
  unfold M_conciergeref24_Find findV
  have h := rfindR_loop l m s hl hb hs l.length 0 (by omega)
  rw [List.drop_zero] at h
  refine Tends.bind h.run (.of fun F => ?_)
  cases findG m s l 0 <;> rfl
theorem findG_spec (m s : By) : ∀ (l : List RlT) (i : Nat), (findG m s l i = .inl () ∧ ∀ r ∈ l, fitsB r m s = false) ∨ ∃ k, findG m s l i = .inr (((i + k : Nat) : Int), ()) ∧ k < l.length ∧ (∀ r, l[k]? = some r → fitsB r m s = true) ∧ ∀ j r, j < k → l[j]? = some r → fitsB r m s = false
  | [], i => .inl ⟨rfl, fun r hr => by cases hr⟩
  | r :: l, i => by
    unfold findG
    cases hc : fitsB r m s with
    | true =>
      rw [if_pos rfl]
      refine .inr ⟨0, rfl, by simp, fun q hq => ?_, fun j q hj => by omega⟩
      have : r = q := by simpa using hq
      subst this
      exact hc
    | false =>
      rw [if_neg Bool.false_ne_true]
      rcases findG_spec m s l (i + 1) with ⟨h1, h2⟩ | ⟨k, h1, h2, h3, h4⟩
      · refine .inl ⟨h1, fun q hq => ?_⟩
        rcases List.mem_cons.1 hq with rfl | hq
        · exact hc
        · exact h2 q hq
      · refine .inr ⟨k + 1, by rw [h1, show i + 1 + k = i + (k + 1) by omega], by rw [List.length_cons]; omega, fun q hq => h3 q (by simpa using hq), fun j q hj hq => ?_⟩
        cases j with
        | zero =>
          have : r = q := by simpa using hq
          subst this
          exact hc
        | succ j => exact h4 j q (by omega) (by simpa using hq)
theorem findV_spec (l : List RlT) (m s : By) : findV l m s < (l.length : Int) ∧ ∀ (k : Nat) r, l[k]? = some r → ((fitsB r m s && (decide (findV l m s < 0) || decide ((k : Int) < findV l m s))) || (decide ((k : Int) = findV l m s) && !fitsB r m s)) = false := by
  rcases findG_spec m s l 0 with ⟨h1, h2⟩ | ⟨k0, h1, h2, h3, h4⟩
  · have hv : findV l m s = -1 := by
      unfold findV
      rw [h1]
      rfl
    rw [hv]
    refine ⟨by omega, fun k r hr => ?_⟩
    rw [h2 r (List.mem_of_getElem? hr), decide_eq_false (by omega : ¬ (k : Int) = -1)]
    rfl
  · have hv : findV l m s = (k0 : Int) := by
      unfold findV
      rw [h1, Nat.zero_add]
      rfl
    rw [hv]
    refine ⟨by omega, fun k r hr => ?_⟩
    rw [decide_eq_false (by omega : ¬ ((k0 : Nat) : Int) < 0), Bool.false_or]
    by_cases c1 : k < k0
    · rw [h4 k r c1 hr, decide_eq_false (by omega : ¬ (k : Int) = (k0 : Int))]
      rfl
    · rw [decide_eq_false (by omega : ¬ (k : Int) < (k0 : Int)), Bool.and_false, Bool.false_or]
      by_cases c2 : k = k0
      · subst c2
        rw [h3 r hr, Bool.not_true, Bool.and_false]
      · rw [decide_eq_false (by omega), Bool.false_and]
theorem finds_loop (l : List RlT) (m s : By) (v : Int) (hl : l.length ≤ 1000000) (hb : ∀ r ∈ l, bndR r) (hs : s.length ≤ 1000) (hv : ∀ (k : Nat) r, l[k]? = some r → ((fitsB r m s && (decide (v < 0) || decide ((k : Int) < v))) || (decide ((k : Int) = v) && !fitsB r m s)) = false) : ∀ (n i : Nat), i + n = l.length → TendsL M_conciergelaw24_RouteFinds_l0 (l, m, s, v, l, (l.length : Int), (i : Int), ()) (.inl (l, v, ()))
  | 0, i, h => by
    refine TendsL.fin (.of fun F => ?_)
    unfold M_conciergelaw24_RouteFinds_l0
    rw [if_neg (by rw [decide_eq_true_eq]; simp only; omega)]
  | n + 1, i, h => by
    have hi : i < l.length := by omega
    have hx : idx l (i : Int) = some l[i] := idx_at _ _ _ (List.getElem?_eq_getElem hi)
    have hw : IntKind.i64.wrap ((i : Int) + 1) = ((i + 1 : Nat) : Int) := by rw [wrap64 _ (by omega) (by omega)]; omega
    have ih := finds_loop l m s v hl hb hs hv n (i + 1) (by omega)
    obtain ⟨b1, b2, b3, b4⟩ := hb l[i] (List.getElem_mem hi)
    have hq := hv i l[i] (List.getElem?_eq_getElem hi)
    generalize l[i] = r at *
    obtain ⟨rm, rp, pr, u⟩ := r
    simp only at b1 b2
    generalize hf : fitsB (rm, rp, pr, u) m s = f at hq
    refine TendsL.step ?_ ih
    unfold M_conciergelaw24_RouteFinds_l0
    refine Tends.pos (by rw [decide_eq_true_eq]; simp only; omega) (Tends.bind (.of fun F => hx) ?_)
    refine Tends.bind (r := ((l, m, s, v, (i : Int), (), l, (l.length : Int), (i : Int), decide (rm = m) || decide (rm = [42]), (rm, rp, pr, ()), ()) : List RlT × By × By × Int × Int × Unit × List RlT × Int × Int × Bool × RlT × Unit)) (.of fun F => ?_) ?_
    · by_cases c1 : rm = m
      · rw [if_neg (by rw [decide_eq_true c1]; exact Bool.noConfusion), decide_eq_true c1]; rfl
      · rw [if_pos (decide_eq_false c1), decide_eq_false c1, Bool.false_or]
    refine Tends.bind (r := ((l, m, s, v, (i : Int), l, (l.length : Int), (i : Int), f, ()) : List RlT × By × By × Int × Int × List RlT × Int × Int × Bool × Unit)) ?_ ?_
    · have e : f = ((decide (rm = m) || decide (rm = [42])) && fitsG rp s) := hf.symm
      rw [e]
      cases (decide (rm = m) || decide (rm = [42])) with
      | true => exact Tends.pos rfl (Tends.bind (fits_t rp s b2 hs) (.ret _))
      | false => exact Tends.neg Bool.false_ne_true (.ret _)
    rw [Bool.or_eq_false_iff] at hq
    obtain ⟨q1, q2⟩ := hq
    refine Tends.bind (r := ((l, m, s, v, (i : Int), f, l, (l.length : Int), (i : Int), false, ()) : List RlT × By × By × Int × Int × Bool × List RlT × Int × Int × Bool × Unit)) ?_ ?_
    · cases f with
      | true =>
        rw [Bool.true_and, Bool.or_eq_false_iff, decide_eq_false_iff_not, decide_eq_false_iff_not] at q1
        refine Tends.pos rfl (Tends.pos (decide_eq_false q1.1) (.of fun F => ?_))
        simp only
        rw [decide_eq_false q1.2]
      | false => exact Tends.neg Bool.false_ne_true (.ret _)
    refine Tends.bind (r := ((l, m, s, v, l, (l.length : Int), (i : Int), false, ()) : List RlT × By × By × Int × List RlT × Int × Int × Bool × Unit)) (Tends.pos rfl ?_) ?_
    · by_cases c : (i : Int) = v
      · rw [decide_eq_true c, Bool.true_and] at q2
        refine Tends.pos (decide_eq_true c) (.of fun F => ?_)
        simp only
        rw [q2]
      · exact Tends.neg (by rw [decide_eq_true_eq]; exact c) (.ret _)
    exact Tends.neg Bool.false_ne_true (.of fun F => by simp only [hw])
theorem routeFinds_t (l : List RlT) (m s : By) : Tends (fun F => M_conciergelaw24_RouteFinds F (l, m, s)) true := by
  unfold M_conciergelaw24_RouteFinds
  refine Tends.bind awake24_t (Tends.neg (by decide) ?_)
  refine Tends.bind (r := ((l, m, s, !(smallR l && decide (m.length ≤ 100)), ()) : List RlT × By × By × Bool × Unit)) (Tends.bind (smallR_t l) ?_) ?_
  · cases smallR l with
    | true =>
      refine Tends.pos rfl (.of fun F => ?_)
      by_cases c : m.length ≤ 100
      · simp only
        rw [decide_eq_false (by omega), decide_eq_true c]
        rfl
      · simp only
        rw [decide_eq_true (by omega), decide_eq_false c]
        rfl
    | false => exact Tends.neg (by decide) (.ret _)
  refine Tends.bind (r := ((l, m, s, !(smallR l && decide (m.length ≤ 100) && decide (s.length ≤ 100)), ()) : List RlT × By × By × Bool × Unit)) ?_ ?_
  · cases (smallR l && decide (m.length ≤ 100)) with
    | true =>
      refine Tends.pos rfl (.of fun F => ?_)
      by_cases c : s.length ≤ 100
      · simp only
        rw [decide_eq_false (by omega), decide_eq_true c]
        rfl
      · simp only
        rw [decide_eq_true (by omega), decide_eq_false c]
        rfl
    | false => exact Tends.neg Bool.noConfusion (.ret _)
  cases hc : (smallR l && decide (m.length ≤ 100) && decide (s.length ≤ 100)) with
  | false => exact Tends.pos rfl (.ret _)
  | true =>
    rw [Bool.and_eq_true, Bool.and_eq_true, decide_eq_true_eq, decide_eq_true_eq] at hc
    obtain ⟨⟨hsm, _⟩, hs⟩ := hc
    obtain ⟨hl, hb⟩ := smallR_bnd hsm
    have hbr : ∀ r ∈ l, bndR r := fun r hr => (hb r hr).r
    have hbs : ∀ r ∈ stdR, bndR r := fun r hr => (std_bnd r hr).r
    refine Tends.neg Bool.false_ne_true ?_
    have hsp := rparseR_t9 stdS (of_decide_eq_true (by kernel_rfl))
    rw [← std_print, rparseR_print stdR std_may, std_print] at hsp
    have hst : Tends (fun F => M_conciergeref24_Standard F ()) stdS := .of fun F => rfl
    refine Tends.bind hst (Tends.bind hsp ?_)
    refine Tends.bind (r := ((l, m, s, stdR, false, ()) : List RlT × By × By × List RlT × Bool × Unit)) (Tends.pos rfl (Tends.bind standard_t (Tends.bind (same_t stdR (by decide) std_bnd) (.ret _)))) ?_
    refine Tends.bind (r := ((l, m, s, false, ()) : List RlT × By × By × Bool × Unit)) (Tends.pos rfl (Tends.bind (find_v stdR m s (by decide) hbs (by omega)) (Tends.bind (rfind_v stdR m s (by decide) std_bnd (by omega)) (.of fun F => by simp)))) ?_
    refine Tends.neg Bool.false_ne_true ?_
    refine Tends.bind (find_v l m s (by omega) hbr (by omega)) (Tends.bind (rfind_v l m s (by omega) hb (by omega)) (Tends.neg (by simp) ?_))
    obtain ⟨v1, v2⟩ := findV_spec l m s
    have h := finds_loop l m s (findV l m s) (by omega) hbr (by omega) v2 l.length 0 (by omega)
    refine Tends.bind h.run (.of fun F => ?_)
    simp only [sumC_inl]
    rw [decide_eq_true v1]
theorem pure_conciergelaw24_RouteFinds (l : List RlT) (m s : By) : ∃ F, M_conciergelaw24_RouteFinds F (l, m, s) = some true := (routeFinds_t l m s).ex
end Go.Vm
