/- JSON: the document's objects are the plain ones. No condition but on lengths. -/
import Derived.Test.YtocgjbdimjlfhaaGreatDoorPj16
namespace Go.Vm
open Go.Lib (decodeL decDigits itoa)
set_option linter.unusedVariables false
set_option linter.unusedSimpArgs false
abbrev Pr := By × By
def gM (d : Nat) (m : Me) : Pr := (m.1, layP d m.2.1)
def mB (p : Pr) : By := quo p.1 ++ 58 :: p.2
def osum (m : List Pr) : Nat := (m.map fun p => (mB p).length + 1).sum
abbrev OS9 := Unit × Unit × Unit × RS × V9 × V9 × Unit
def oV (m : List Pr) (form : By) : V9 := (6, form, [], 0, m.map (·.1), m.map (·.2), ())
def oS (m : List Pr) (form : By) (x : RS) : OS9 := ((), (), (), x, z9, oV m form, ())
theorem osum_len (m : List Pr) : m.length ≤ osum m := by
 unfold osum
 induction m with
 | nil => exact Nat.le_refl _
 | cons b l ih => simp only [List.map_cons, List.sum_cons, List.length_cons]; omega
theorem osum_app (a b : List Pr) : osum (a ++ b) = osum a + osum b := by unfold osum; rw [List.map_append, List.sum_append]
theorem osum_put (m : List Pr) (p : Nat) (x : Pr) : osum (putN m p x) = osum m + ((mB x).length + 1) := by
 have h : osum m = osum (m.take p) + osum (m.drop p) := by rw [← osum_app, List.take_append_drop]
 have h1 : osum [x] = (mB x).length + 1 := rfl
 unfold putN
 rw [osum_app, osum_app, h, h1]
 omega
theorem join_osum : ∀ m : List Pr, (joinB (m.map mB)).length ≤ osum m
 | [] => Nat.le_refl _
 | [b] => by unfold osum; simp [joinB]
 | b :: c :: l => by
  have ih := join_osum (c :: l)
  rw [List.map_cons, List.map_cons]
  unfold joinB
  unfold osum at ih ⊢
  rw [List.map_cons, List.sum_cons, List.length_append, List.length_cons, ← List.map_cons]
  omega
theorem osum_mem {m : List Pr} {p : Pr} (h : p ∈ m) : (mB p).length ≤ osum m := by
 induction m with
 | nil => cases h
 | cons b l ih =>
  unfold osum at ih ⊢
  rw [List.map_cons, List.sum_cons]
  rcases List.mem_cons.1 h with rfl | h
  ·omega
  ·have := ih h; omega
theorem quoB_pos (c : UInt8) : 1 ≤ (quoB c).length := by
 unfold quoB
 repeat' split
 all_goals exact Nat.le_of_ble_eq_true rfl
theorem quoL_ge (t : By) : t.length ≤ (quoL t).length := by
 induction t with
 | nil => exact Nat.le_refl _
 | cons c t ih =>
  have := quoB_pos c
  show _ ≤ (quoB c ++ quoL t).length
  rw [List.length_append, List.length_cons]
  omega
theorem mB_len (p : Pr) : (mB p).length = (quoL p.1).length + p.2.length + 3 := by unfold mB quo; simp; omega
/-! ### one member -/
def memP (V : By → Except Nat (JV × By)) (acc : List Me) (s : By) : Except Nat (Me × By) := match skp s with
 | 34 :: r => match txt r with
  | none => .error 3
  | some (name, r) => if acc.any (fun m => m.1 == name) then .error 7 else match skp r with
   | 58 :: r => match V r with
    | .error e => .error e
    | .ok (v, r) => .ok ((name, v, ()), r)
   | _ => .error 3
 | _ => .error 3
theorem objP_mem (V : By → Except Nat (JV × By)) (n : Nat) (acc : List Me) (s : By) : objP V (n + 1) acc s = match memP V acc s with
  | .error e => .error e
  | .ok (m, r) => match skp r with
   | 44 :: r => objP V n (acc ++ [m]) r
   | 125 :: r => .ok (acc ++ [m], r)
   | _ => .error 3 := by
 rw [objP]
 unfold memP
 cases skp s with
 | nil => rfl
 | cons c r =>
  by_cases hc : c = 34
  ·subst hc
   simp only
   cases txt r with
   | none => rfl
   | some w =>
    obtain ⟨name, r1⟩ := w
    simp only
    split
    ·rfl
    ·cases skp r1 with
     | nil => rfl
     | cons c r2 =>
      by_cases hc : c = 58
      ·subst hc
       simp only
       cases V r2 with
       | error e => rfl
       | ok w => rfl
      ·simp [hc]
  ·simp [hc]
noncomputable def mem9T (F : Nat) (R : RS → Option (V9 × RS)) (v6 : Unit × Unit × Unit × By × Int × RS × V9 × V9 × Unit) : Option (V9 × RS) :=
 (M_conciergeref09_Read_blanks F (v6.2.2.2.2.2.1.1, v6.2.2.2.2.2.1.2.1, v6.2.2.2.2.2.1.2.2.1, v6.2.2.2.2.2.1.2.2.2.1, ())).bind fun v7 => (M_conciergeref09_Read_is F ((v7.2.1, v7.2.2.1, v7.2.2.2.1, v7.2.2.2.2.1, ()), 58)).bind fun v8 => if (!v8.1) = true then (M_conciergeref09_Read_bad F ((v8.2.1, v8.2.2.1, v8.2.2.2.1, v8.2.2.2.2.1, ()), 3)).bind fun v9 => some (v6.2.2.2.2.2.2.1, v9.2.1, v9.2.2.1, v9.2.2.2.1, v9.2.2.2.2.1, ()) else (R (v8.2.1, IntKind.i64.wrap (v8.2.2.1 + 1), v8.2.2.2.1, v8.2.2.2.2.1, ())).bind fun v10 => (M_conciergeref09_put F (v6.2.2.2.2.2.2.1.2.2.2.2.1, v6.2.2.2.2.1, v6.2.2.2.1)).bind fun v11 => (M_conciergeref09_put F (v6.2.2.2.2.2.2.1.2.2.2.2.2.1, v6.2.2.2.2.1, v10.1.2.1)).bind fun v12 => some ((v6.2.2.2.2.2.2.1.1, v6.2.2.2.2.2.2.1.2.1, v6.2.2.2.2.2.2.1.2.2.1, v6.2.2.2.2.2.2.1.2.2.2.1, v11, v12, ()), v10.2.1, v10.2.2.1, v10.2.2.2.1, v10.2.2.2.2.1, ())
theorem member_eq (F : Nat) (R : RS → Option (V9 × RS)) (x : RS × V9) : M_conciergeref09_Read_member F R x = (M_conciergeref09_Read_blanks F (x.1.1, x.1.2.1, x.1.2.2.1, x.1.2.2.2.1, ())).bind fun v0 => (M_conciergeref09_Read_is F ((v0.2.1, v0.2.2.1, v0.2.2.2.1, v0.2.2.2.2.1, ()), 34)).bind fun v1 => if (!v1.1) = true then (M_conciergeref09_Read_bad F ((v1.2.1, v1.2.2.1, v1.2.2.2.1, v1.2.2.2.2.1, ()), 3)).bind fun v2 => some (x.2, v2.2.1, v2.2.2.1, v2.2.2.2.1, v2.2.2.2.2.1, ()) else (M_conciergeref09_Read_text F (v1.2.1, v1.2.2.1, v1.2.2.2.1, v1.2.2.2.2.1, ())).bind fun v3 => (M_conciergeref09_place F (x.2.2.2.2.2.1, v3.1)).bind fun v4 => (if v4.2 = true then (M_conciergeref09_Read_bad F ((v3.2.1, v3.2.2.1, v3.2.2.2.1, v3.2.2.2.2.1, ()), 7)).bind fun v5 => some ((), (), (), v3.1, v4.1, (v5.2.1, v5.2.2.1, v5.2.2.2.1, v5.2.2.2.2.1, ()), x.2, z9, ()) else some ((), (), (), v3.1, v4.1, (v3.2.1, v3.2.2.1, v3.2.2.2.1, v3.2.2.2.2.1, ()), x.2, z9, ()) : Option (Unit × Unit × Unit × By × Int × RS × V9 × V9 × Unit)).bind (mem9T F R) := rfl
theorem mem9_bad (s : By) (hs : s.length ≤ 1000) (R : Nat → RS → Option (V9 × RS)) (name : By) (p : Int) (V : V9) (r : By) (hr : r <:+ s) (k e : Int) (h : isH (skp r) e 58 = false) : Tends (fun F => mem9T F (R F) ((), (), (), name, p, st s r k e, V, z9, ())) (V, st s (skp r) k (if e = 0 then 3 else e)) := by
 have h1 := fun F => isH_skp s r hr F k e 58
 simp only [h] at h1
 unfold mem9T
 refine Tends.bind (blanks_t s r hr hs k e) ?_
 refine Tends.bind (.of h1) ?_
 refine Tends.pos rfl (.of fun F => ?_)
 unfold st
 simp only [bad_eq, Option.bind_some]
def Mem9 (s : By) (d : Nat) (acc : List Me) (x : Except Nat (Me × By)) (y : V9 × RS) : Prop := match x with
 | .ok (me, q) => y = (oV ((sortM (acc ++ [me])).map (gM d)) [], st s q (8 - (d : Int)) 0)
 | .error e => ∃ m x', y = (oV m [], x') ∧ Bad s e x' ∧ osum m ≤ 3000 + 9000 * (d + 1)
theorem any_perm (x : By) {l l' : List Me} (h : l.Perm l') : l.any (fun m => m.1 == x) = l'.any (fun m => m.1 == x) := by
 rw [Bool.eq_iff_iff, List.any_eq_true, List.any_eq_true]
 constructor
 ·rintro ⟨m, hm, h2⟩; exact ⟨m, h.mem_iff.1 hm, h2⟩
 ·rintro ⟨m, hm, h2⟩; exact ⟨m, h.mem_iff.2 hm, h2⟩
theorem member9_t (s : By) (hs : s.length ≤ 1000) (d : Nat) (hd : d ≤ 8) (R : Nat → RS → Option (V9 × RS)) (hR : VT9 s d R) (r : By) (hr : r <:+ s) (acc : List Me) (hu : Uni acc) (ha : osum ((sortM acc).map (gM d)) + r.length ≤ 1001) :
  ∃ y, Tends (fun F => M_conciergeref09_Read_member F (R F) (st s r (8 - (d : Int)) 0, oV ((sortM acc).map (gM d)) [])) y ∧ Mem9 s d acc (memP (valP d) acc r) y := by
 have hml : ((sortM acc).map (gM d)).length ≤ 1001 := Nat.le_trans (osum_len _) (by omega)
 have hskr : skp r <:+ s := (skp_suffix r).trans hr
 have h34 := fun F => isH_skp s r hr F (8 - (d : Int)) 0 34
 have hb := blanks_t s r hr hs (8 - (d : Int)) 0
 have hnm : (((sortM acc).map (gM d)).map (·.1)) = (sortM acc).map (·.1) := by rw [List.map_map]; rfl
 unfold memP
 split
 ·rename_i r0 h0
  rw [h0] at hskr hb
  simp only [h0, isH_cons, decide_true] at h34
  obtain ⟨y, t1, t2⟩ := text9_t s r0 hskr hs (8 - (d : Int))
  have pl := fun x => place_t (((sortM acc).map (gM d)).map (·.1)) x (by rw [List.length_map]; omega)
  have ahead : ∀ (v6 : Unit × Unit × Unit × By × Int × RS × V9 × V9 × Unit) (z : V9 × RS), (∀ F : Nat, (if decide ((((sortM acc).map (gM d)).map (·.1))[posN (((sortM acc).map (gM d)).map (·.1)) y.1]? = some y.1) = true then (M_conciergeref09_Read_bad F ((y.2.1, y.2.2.1, y.2.2.2.1, y.2.2.2.2.1, ()), 7)).bind fun v5 => some ((), (), (), y.1, (posN (((sortM acc).map (gM d)).map (·.1)) y.1 : Int), (v5.2.1, v5.2.2.1, v5.2.2.2.1, v5.2.2.2.2.1, ()), oV ((sortM acc).map (gM d)) [], z9, ()) else some ((), (), (), y.1, (posN (((sortM acc).map (gM d)).map (·.1)) y.1 : Int), (y.2.1, y.2.2.1, y.2.2.2.1, y.2.2.2.2.1, ()), oV ((sortM acc).map (gM d)) [], z9, ()) : Option (Unit × Unit × Unit × By × Int × RS × V9 × V9 × Unit)) = some v6) → Tends (fun F => mem9T F (R F) v6) z → Tends (fun F => M_conciergeref09_Read_member F (R F) (st s r (8 - (d : Int)) 0, oV ((sortM acc).map (gM d)) [])) z := by
   intro v6 z h6 hz
   refine Tends.congr (m := fun F => _) ?_ fun F => member_eq F (R F) _
   refine Tends.bind hb ?_
   refine Tends.bind (.of h34) ?_
   refine Tends.neg (by show ¬ (!true) = true; decide) ?_
   refine Tends.bind t1 ?_
   refine Tends.bind (pl y.1) ?_
   exact Tends.bind (.of h6) hz
  split
  ·rename_i ht
   rw [ht] at t2
   obtain ⟨r', hr', rfl⟩ := t2
   have hbd := mem9_bad s hs R [] (posN (((sortM acc).map (gM d)).map (·.1)) [] : Int) (oV ((sortM acc).map (gM d)) []) r' hr' (8 - (d : Int)) 3 (isH_bad _ _ (by decide) _)
   refine ⟨_, ahead _ _ (fun F => ?_) hbd, (sortM acc).map (gM d), _, rfl, ⟨by decide, skp r', _, rfl, (skp_suffix r').trans hr', by omega, by omega⟩, by omega⟩
   unfold st
   simp only [bad_eq, Option.bind_some]
   split <;> rfl
  ·rename_i name r1 ht
   rw [ht] at t2
   subst t2
   obtain ⟨tx1, tx2, tx3⟩ := txt_ok r0 ht
   have hr1 := tx2.trans (tail_suf hskr)
   have hany : decide ((((sortM acc).map (gM d)).map (·.1))[posN (((sortM acc).map (gM d)).map (·.1)) name]? = some name) = acc.any (fun m => m.1 == name) := by
    rw [hnm, place_any name (sortM acc) (sortM_ris acc hu), any_perm name (sortM_perm acc)]
   simp only at ahead
   rw [hany] at ahead
   split
   ·rename_i hdup
    have hbd := mem9_bad s hs R name (posN (((sortM acc).map (gM d)).map (·.1)) name : Int) (oV ((sortM acc).map (gM d)) []) r1 hr1 (8 - (d : Int)) 7 (isH_bad _ _ (by decide) _)
    refine ⟨_, ahead _ _ (fun F => ?_) hbd, (sortM acc).map (gM d), _, rfl, ⟨by decide, skp r1, _, rfl, (skp_suffix r1).trans hr1, by omega, by omega⟩, by omega⟩
    rw [if_pos hdup]
    unfold st
    simp only [bad_eq, Option.bind_some, if_true]
   ·rename_i hdup
    have ahead' := fun z h => ahead ((), (), (), name, (posN (((sortM acc).map (gM d)).map (·.1)) name : Int), st s r1 (8 - (d : Int)) 0, oV ((sortM acc).map (gM d)) [], z9, ()) z (fun F => by rw [if_neg hdup]) h
    have hskr1 : skp r1 <:+ s := (skp_suffix r1).trans hr1
    split
    ·rename_i r2 h2
     rw [h2] at hskr1
     have hr2 := tail_suf hskr1
     have h58 := fun F => isH_skp s r1 hr1 F (8 - (d : Int)) 0 58
     simp only [h2, isH_cons, decide_true] at h58
     have hb1 := blanks_t s r1 hr1 hs (8 - (d : Int)) 0
     rw [h2] at hb1
     obtain ⟨⟨v, x⟩, v1, v2⟩ := hR r2 hr2
     have hpl := posN_le (((sortM acc).map (gM d)).map (·.1)) name
     have hml1 : (((sortM acc).map (gM d)).map (·.1)).length ≤ 1000000 := by rw [List.length_map]; omega
     have hml2 : (((sortM acc).map (gM d)).map (·.2)).length ≤ 1000000 := by rw [List.length_map]; omega
     have hpl2 : posN (((sortM acc).map (gM d)).map (·.1)) name ≤ (((sortM acc).map (gM d)).map (·.2)).length := by rw [List.length_map] at hpl ⊢; first | done | exact hpl
     have hp1 := fun F => put_t F (((sortM acc).map (gM d)).map (·.1)) _ name hml1 hpl
     have hp2 := fun F => put_t F (((sortM acc).map (gM d)).map (·.2)) _ v.2.1 hml2 hpl2
     have hrun : Tends (fun F => M_conciergeref09_Read_member F (R F) (st s r (8 - (d : Int)) 0, oV ((sortM acc).map (gM d)) [])) (oV (putN ((sortM acc).map (gM d)) (posN (((sortM acc).map (gM d)).map (·.1)) name) (name, v.2.1)) [], x) := by
      refine ahead' _ ?_
      unfold mem9T
      refine Tends.bind hb1 ?_
      refine Tends.bind (.of h58) ?_
      refine Tends.neg (by show ¬ (!true) = true; decide) ?_
      have hn := next_suf hskr1 hs
      have v1' : Tends (fun F => R F (s, IntKind.i64.wrap (((s.length - ((58 : UInt8) :: r2).length : Nat) : Int) + 1), 8 - (d : Int), 0, ())) (v, x) := by rw [hn]; exact v1
      refine Tends.bind v1' ?_
      refine Tends.bind (.of hp1) ?_
      refine Tends.bind (.of hp2) (.of fun F => ?_)
      unfold oV
      simp only [putN_map]
     refine ⟨_, hrun, ?_⟩
     have hs1 := skp_len r
     rw [h0] at hs1
     have hs2 := skp_len r1
     rw [h2] at hs2
     simp only [List.length_cons] at hs1 hs2
     cases hv : valP d r2 with
     | error e =>
      rw [hv] at v2
      obtain ⟨w1, w2⟩ : Bad s e x ∧ v.2.1.length ≤ 9000 * (d + 1) := v2
      refine ⟨_, _, rfl, w1, ?_⟩
      rw [osum_put, mB_len]
      simp only
      have hsl := suf_len hr
      omega
     | ok w =>
      obtain ⟨v', q⟩ := w
      rw [hv] at v2
      have v2 : (v, x) = (refV d v', st s q (8 - (d : Int)) 0) := v2
      injection v2 with q1 q2
      subst q1; subst q2
      have hne : ∀ m ∈ sortM acc, m.1 ≠ name := by
       intro m hm hh
       apply hdup
       rw [← any_perm name (sortM_perm acc)]
       exact List.any_eq_true.2 ⟨m, hm, beq_iff_eq.2 hh⟩
      show _ = _
      have hins := putN_ins ((name, v', ()) : Me) (sortM acc) hne
      rw [sortM_snoc, hins, putN_map, hnm]
      rfl
    ·rename_i h58
     have hbd := mem9_bad s hs R name (posN (((sortM acc).map (gM d)).map (·.1)) name : Int) (oV ((sortM acc).map (gM d)) []) r1 hr1 (8 - (d : Int)) 0 (isH_no (fun q h => h58 q h) 0)
     exact ⟨_, ahead' _ hbd, (sortM acc).map (gM d), _, rfl, ⟨by decide, skp r1, _, rfl, hskr1, by omega, by omega⟩, by omega⟩
 ·rename_i hno
  simp only [isH_no (fun q h => hno q h)] at h34
  refine ⟨(oV ((sortM acc).map (gM d)) [], st s (skp r) (8 - (d : Int)) 3), ?_, (sortM acc).map (gM d), _, rfl, ⟨by decide, skp r, _, rfl, hskr, by omega, by omega⟩, by omega⟩
  refine Tends.congr (m := fun F => _) ?_ fun F => member_eq F (R F) _
  refine Tends.bind hb ?_
  refine Tends.bind (.of h34) ?_
  refine Tends.pos rfl (.of fun F => ?_)
  unfold st
  simp only [bad_eq, Option.bind_some, if_true]
theorem memP_ok {d : Nat} {acc : List Me} {r : By} {me : Me} {q : By} (h : memP (valP d) acc r = .ok (me, q)) : q <:+ r ∧ (mB (gM d me)).length + q.length ≤ r.length ∧ (∀ m ∈ acc, m.1 ≠ me.1) := by
 unfold memP at h
 split at h
 ·rename_i r0 h0
  split at h
  ·cases h
  ·rename_i name r1 ht
   split at h
   ·cases h
   ·rename_i hdup
    split at h
    ·rename_i r2 h2
     split at h
     ·cases h
     ·rename_i v r3 hv
      cases h
      obtain ⟨t1, t2, t3⟩ := txt_ok r0 ht
      obtain ⟨_, o2, o3, o4⟩ := val_ok d r2 v q hv
      have hs1 := skp_len r
      rw [h0] at hs1
      have hs2 := skp_len r1
      rw [h2] at hs2
      simp only [List.length_cons] at hs1 hs2
      refine ⟨?_, ?_, ?_⟩
      ·exact o2.trans (((List.suffix_cons 58 r2).trans (h2 ▸ skp_suffix r1)).trans (t2.trans ((List.suffix_cons 34 r0).trans (h0 ▸ skp_suffix r))))
      ·rw [mB_len]
       show (quoL name).length + (layP d v).length + 3 + q.length ≤ r.length
       omega
      ·intro m hm hh
       apply hdup
       exact List.any_eq_true.2 ⟨m, hm, beq_iff_eq.2 hh⟩
    ·cases h
 ·cases h
theorem uni_snoc {acc : List Me} {me : Me} (hu : Uni acc) (h : ∀ m ∈ acc, m.1 ≠ me.1) : Uni (acc ++ [me]) := by
 unfold Uni
 rw [List.pairwise_append]
 refine ⟨hu, List.pairwise_singleton _ _, fun a ha b hb => ?_⟩
 rw [List.mem_singleton] at hb
 subst hb
 exact h a ha
end Go.Vm
