/- JSON: the document's objects and values are the plain ones. No condition but on lengths. -/
import Derived.Test.YtocgjbdimjlfhaaGreatDoorPj17
namespace Go.Vm
open Go.Lib (decodeL decDigits itoa)
set_option linter.unusedVariables false
set_option linter.unusedSimpArgs false
def RO9 (s : By) (d : Nat) (x : Except Nat (List Me × By)) (y : OS9) : Prop := ∃ m x', y = oS m [] x' ∧ osum m ≤ 4000 + 9000 * (d + 1) ∧ match x with
 | .ok (l, q) => m = (sortM l).map (gM d) ∧ x' = st s q (8 - (d : Int) - 1) 0
 | .error e => Bad s e x'
theorem object9_loop (s : By) (hs : s.length ≤ 1000) (d : Nat) (hd : d ≤ 8) (R : Nat → RS → Option (V9 × RS)) (hR : VT9 s d R) : ∀ (n : Nat) (r : By) (acc : List Me), r <:+ s → r.length + 1 ≤ n → Uni acc → osum ((sortM acc).map (gM d)) + r.length ≤ 1001 →
  ∃ y, TendsL (fun F => M_conciergeref09_Read_object_l0 F (R F)) (oS ((sortM acc).map (gM d)) [] (st s r (8 - (d : Int)) 0)) y ∧ RO9 s d (objP (valP d) n acc r) y
 | 0, r, acc, hr, hn, hu, ha => by omega
 | n + 1, r, acc, hr, hn, hu, ha => by
  obtain ⟨⟨V, x⟩, h1, h2⟩ := member9_t s hs d hd R hR r hr acc hu ha
  have hbody : ∀ (m : List Pr) (b : Bool) (x' : RS), V = oV m [] → Tends (fun F => M_conciergeref09_Read_more F (x, ((125 : UInt8).toNat : Int))) (b, x') → Tends (fun F => M_conciergeref09_Read_object_l0 F (R F) (oS ((sortM acc).map (gM d)) [] (st s r (8 - (d : Int)) 0))) (if (!b) = true then .inr (oS m [] x') else .inl (oS m [] x')) := by
   intro m b x' hV hcc
   subst hV
   unfold M_conciergeref09_Read_object_l0
   refine Tends.pos (by rfl) ?_
   refine Tends.bind h1 ?_
   refine Tends.bind hcc ?_
   cases b <;> exact .ret _
  rw [objP_mem]
  cases hm : memP (valP d) acc r with
  | error e =>
   rw [hm] at h2
   obtain ⟨m, x1, h3, hb, hsz⟩ := h2
   injection h3 with q1 q2
   subst q1; subst q2
   obtain ⟨x', h5, h6⟩ := more9_bad s e x hb hs 125
   have hsz' : osum m ≤ 4000 + 9000 * (d + 1) := Nat.le_trans hsz (Nat.add_le_add_right (by decide) _)
   exact ⟨_, TendsL.fin (hbody m false x' rfl h5), m, x', rfl, hsz', h6⟩
  | ok w =>
   obtain ⟨me, q⟩ := w
   rw [hm] at h2
   have h2 : (V, x) = _ := h2
   injection h2 with q1 q2
   subst q1; subst q2
   obtain ⟨o1, o2, o3⟩ := memP_ok hm
   have hq := o1.trans hr
   have hsk := skp_len q
   have hu' := uni_snoc hu o3
   have hsum : osum ((sortM (acc ++ [me])).map (gM d)) = osum ((sortM acc).map (gM d)) + ((mB (gM d me)).length + 1) := by
    rw [sortM_snoc, putN_ins me (sortM acc) (fun y hy => o3 y ((sortM_perm acc).mem_iff.1 hy)), putN_map, osum_put]
   have hsl := suf_len hr
   simp only
   split
   ·rename_i r' hs44
    rw [hs44] at hsk
    simp only [List.length_cons] at hsk
    have hr' : r' <:+ s := ((List.suffix_cons 44 r').trans (hs44 ▸ skp_suffix q)).trans hq
    have hmb : 1 ≤ (mB (gM d me)).length := by rw [mB_len]; omega
    obtain ⟨y, i1, i2⟩ := object9_loop s hs d hd R hR n r' (acc ++ [me]) hr' (by omega) hu' (by omega)
    exact ⟨y, TendsL.step (hbody _ true _ rfl (more9_44 s q r' hq hs _ 125 hs44)) i1, i2⟩
   ·rename_i r' hs125
    exact ⟨_, TendsL.fin (hbody _ false _ rfl (more9_z s q r' hq hs _ (by omega) 125 (by decide) hs125)), _, _, rfl, by omega, rfl, rfl⟩
   ·rename_i h44 h125
    have hno := more9_no s q hq hs (8 - (d : Int)) 0 125 (isH_no (fun q h => h44 q h) 0) (isH_no (fun q h => h125 q h) 0)
    exact ⟨_, TendsL.fin (hbody _ false _ rfl hno), _, _, rfl, by omega, by decide, skp q, _, rfl, (skp_suffix q).trans hq, by omega, by omega⟩
theorem ojoin_loop (R : Nat → RS → Option (V9 × RS)) (m : List Pr) (x : RS) (hl : m.length ≤ 1000000) (ht : ∀ p ∈ m, p.1.length ≤ 1000000) : ∀ (n i : Nat) (form : By), i + n = m.length → form.length + (jfrom mB i (m.drop i)).length ≤ 1000000 →
  TendsL (fun F => M_conciergeref09_Read_object_l1 F (R F)) ((), (), (), (i : Int), x, z9, oV m form, ()) (oS m (form ++ jfrom mB i (m.drop i)) x)
 | 0, i, form, h, hb => by
  refine TendsL.fin (.of fun F => ?_)
  unfold M_conciergeref09_Read_object_l1 oV
  rw [if_neg (by simp; omega), List.drop_eq_nil_of_le (by omega)]
  have : jfrom mB i ([] : List Pr) = [] := by unfold jfrom; split <;> rfl
  rw [this, List.append_nil]
  rfl
 | n + 1, i, form, h, hb => by
  have hi : i < m.length := by omega
  have hx1 : idx (m.map (·.1)) (i : Int) = some m[i].1 := idx_at _ _ _ (by simp [hi])
  have hx2 : idx (m.map (·.2)) (i : Int) = some m[i].2 := idx_at _ _ _ (by simp [hi])
  have hqt := quote9_t m[i].1 (ht _ (List.getElem_mem hi))
  rw [List.drop_eq_getElem_cons hi, jfrom_cons] at hb ⊢
  rw [List.length_append, List.length_append] at hb
  have hmb : (mB m[i]).length = (quo m[i].1).length + (1 + m[i].2.length) := by unfold mB; simp; omega
  have hw : IntKind.i64.wrap ((i : Int) + 1) = ((i + 1 : Nat) : Int) := by rw [wrap64 _ (by omega) (by omega)]; omega
  refine TendsL.step (x' := ((), (), (), ((i + 1 : Nat) : Int), x, z9, oV m (form ++ (if i = 0 then [] else [44]) ++ mB m[i]), ())) ?_ ?_
  ·unfold M_conciergeref09_Read_object_l1
   refine Tends.pos (by unfold oV; simpa using hi) ?_
   refine Tends.bind (r := (((), (), (), (i : Int), x, z9, oV m (form ++ (if i = 0 then [] else [44])), ()) : Unit × Unit × Unit × Int × RS × V9 × V9 × Unit)) ?_ ?_
   ·by_cases h0 : i = 0
    ·subst h0
     refine Tends.neg (by show ¬ decide ((0 : Int) < ((0 : Nat) : Int)) = true; decide) ?_
     rw [if_pos rfl, List.append_nil]
     exact .ret _
    ·refine Tends.pos (by show decide ((0 : Int) < (i : Int)) = true; rw [decide_eq_true_eq]; omega) ?_
     rw [if_neg h0] at hb ⊢
     exact Tends.pos (by unfold oV; rw [decide_eq_true_eq]; simp only [List.length_singleton] at hb ⊢; omega) (.ret _)
   ·unfold oV
    refine Tends.bind (.of fun F => hx1) ?_
    refine Tends.bind hqt ?_
    refine Tends.pos (by rw [decide_eq_true_eq, List.length_append]; omega) ?_
    refine Tends.pos (by rw [decide_eq_true_eq]; simp only [List.length_append, List.length_singleton]; omega) ?_
    refine Tends.bind (.of fun F => hx2) ?_
    refine Tends.pos (by rw [decide_eq_true_eq]; simp only [List.length_append, List.length_singleton]; omega) (.of fun F => ?_)
    have e : form ++ (if i = 0 then ([] : By) else [44]) ++ quo m[i].1 ++ [58] ++ m[i].2 = form ++ (if i = 0 then ([] : By) else [44]) ++ mB m[i] := by unfold mB; simp only [List.append_assoc, List.singleton_append]
    simp only [hw, e]
  ·have := ojoin_loop R m x hl ht n (i + 1) (form ++ (if i = 0 then [] else [44]) ++ mB m[i]) (by omega) (by rw [List.length_append, List.length_append]; omega)
   rw [← List.append_assoc (if i = 0 then ([] : By) else [44])]
   simpa only [List.append_assoc] using this
theorem object9_t (s : By) (hs : s.length ≤ 1000) (d : Nat) (hd : d ≤ 8) (R : Nat → RS → Option (V9 × RS)) (hR : ∀ d', d = d' + 1 → VT9 s d' R) (q : By) (hq : 123 :: q <:+ s) :
  ∃ y, Tends (fun F => M_conciergeref09_Read_object F (R F) (st s (123 :: q) (8 - (d : Int)) 0)) y ∧ RV9 s d (match (match d with | 0 => none | d + 1 => some (valP d) : Option (By → Except Nat (JV × By))) with
   | none => .error 10
   | some V => match skp q with
    | 125 :: r => .ok (.obj [], r)
    | r => match objP V (r.length + 1) [] r with
     | .error e => .error e
     | .ok (l, r) => .ok (.obj (sortM l), r)) y := by
 have hqs := tail_suf hq
 have hsk : skp q <:+ s := (skp_suffix q).trans hqs
 have hop := open9_t s q 123 hq hs (8 - (d : Int)) (by omega)
 have h125 := fun e k => fun F => isH_skp s q hqs F k e 125
 -- behind the first loop
 have ahead : ∀ (m : List Pr) (x x' : RS), osum m ≤ 900000 → Tends (fun F => M_conciergeref09_Read_open F (st s (123 :: q) (8 - (d : Int)) 0)) ((), x) → Tends (fun F => M_conciergeref09_Read_is F (x, ((125 : UInt8).toNat : Int))) (false, x) → TendsL (fun F => M_conciergeref09_Read_object_l0 F (R F)) (oS [] [] x) (oS m [] x') → Tends (fun F => M_conciergeref09_Read_object F (R F) (st s (123 :: q) (8 - (d : Int)) 0)) (oV m (123 :: (joinB (m.map mB) ++ [125])), x') := by
  intro m x x' hj h1 h2 h3
  have hjl := join_osum m
  have hil := osum_len m
  have hml : ∀ p ∈ m, p.1.length ≤ 1000000 := by
   intro p hp
   have a1 := osum_mem hp
   rw [mB_len] at a1
   have a2 := quoL_ge p.1
   omega
  have e0 : jfrom mB 0 m = joinB (m.map mB) := by unfold jfrom; rw [if_pos rfl]
  have hjn := ojoin_loop R m x' (by omega) hml m.length 0 [] (by omega) (by rw [List.drop_zero, e0]; simp only [List.length_nil]; omega)
  rw [List.drop_zero, e0, List.nil_append] at hjn
  unfold M_conciergeref09_Read_object
  refine Tends.bind h1 ?_
  refine Tends.bind h2 ?_
  refine Tends.neg Bool.false_ne_true ?_
  refine Tends.bind h3.run ?_
  refine Tends.bind hjn.run ?_
  unfold oS oV
  refine Tends.pos (by rw [decide_eq_true_eq]; simp only [List.length_singleton]; omega) ?_
  refine Tends.pos (by rw [decide_eq_true_eq, List.length_append]; simp only [List.length_singleton]; omega) (.of fun F => rfl)
 cases d with
 | zero =>
  rw [if_pos (by decide)] at hop
  have h2 := h125 10 (8 - ((0 : Nat) : Int) + 1)
  simp only [isH_bad _ (10 : Int) (by decide) _] at h2
  refine ⟨_, ahead [] _ _ (by decide) hop (.of h2) (TendsL.fin (.of fun F => rfl)), ⟨by decide, skp q, 8 - ((0 : Nat) : Int) + 1, rfl, hsk, by decide, by decide⟩, ?_⟩
  show (2 : Nat) ≤ 9000 * (0 + 1)
  decide
 | succ d =>
  rw [if_neg (by omega)] at hop
  have e8 : (8 : Int) - ((d + 1 : Nat) : Int) + 1 = 8 - (d : Int) := by omega
  rw [e8] at hop
  have e9 : (8 : Int) - (d : Int) - 1 = 8 - ((d + 1 : Nat) : Int) := by omega
  have h2 := h125 0 (8 - (d : Int))
  simp only
  split
  ·rename_i r hr
   rw [hr] at hop hsk
   simp only [hr, isH_cons, decide_true] at h2
   refine ⟨((6, [123, 125], [], 0, [], [], ()), st s r (8 - ((d + 1 : Nat) : Int)) 0), ?_, rfl⟩
   unfold M_conciergeref09_Read_object
   refine Tends.bind hop ?_
   refine Tends.bind (.of h2) ?_
   refine Tends.pos rfl (.of fun F => ?_)
   unfold st
   simp only [next_suf hsk hs]
   rw [wrap64 _ (by omega) (by omega), e9]
  ·rename_i hr
   simp only [isH_no (fun q h => hr q h)] at h2
   have hsl := suf_len hsk
   have hz : osum (([] : List Me).map (gM d)) = 0 := rfl
   have hsz : sortM [] = [] := rfl
   obtain ⟨y, i1, m, x', rfl, i3, i4⟩ := object9_loop s hs d (by omega) R (hR d rfl) ((skp q).length + 1) (skp q) [] hsk (Nat.le_refl _) .nil (by rw [hsz, hz]; omega)
   have hd9 : d ≤ 8 := by omega
   have hj9 : osum m ≤ 900000 := Nat.le_trans i3 (by clear i3 i4 i1 hop h2 h125 ahead; omega)
   have hjl := join_osum m
   refine ⟨_, ahead m _ _ hj9 hop (.of h2) i1, ?_⟩
   cases hl : objP (valP d) ((skp q).length + 1) [] (skp q) with
   | error e =>
    rw [hl] at i4
    refine ⟨i4, ?_⟩
    unfold oV
    simp only [List.length_cons, List.length_append, List.length_nil]
    omega
   | ok w =>
    obtain ⟨l, r⟩ := w
    rw [hl] at i4
    obtain ⟨rfl, rfl⟩ := i4
    rw [e9]
    unfold RV9 refV oV
    simp only [kindP, textP, numV, namesP, itemsP, layP, layB, List.map_map]
    rfl
end Go.Vm
