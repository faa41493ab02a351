import Derived.Test.YtihpjgcbmipdbaaGreatDoorPjob1
import Derived.Test.YtihpjgcbmipdbaaGreatDoorFnums
import Derived.Test.YtihpjgcbmipdbaaGreatDoorFlease
import Derived.Test.YtihpjgcbmipdbaaGreatDoorFlaw22
import Derived.Test.YtihpjgcbmipdbaaGreatDoorFsignx
import Derived.Test.YtihpjgcbmipdbaaGreatDoorPk1
/- Leases: the program's answer and the document's are the plain one. No condition. -/
namespace Go.Vm
open Go.Proofs
set_option linter.unusedVariables false
set_option linter.unusedSimpArgs false
theorem within_eq (F : Nat) (n lo hi : Int) (h : lo ≤ hi) : M_num_within F (n, lo, hi) = some (brT n lo hi) := by
 unfold M_num_within brT
 by_cases h1 : n < lo
 ·have h2 : ¬ hi < lo := by omega
  simp [h1, h2]
 ·simp [h1]
theorem numTime_eq (F : Nat) (n : Int) : M_num_Time F n = some (timeT n) := by
 unfold M_num_Time
 rw [within_eq F n 0 1099511627776 (by decide)]
 rfl
theorem brT_id {n lo hi : Int} (h1 : lo ≤ n) (h2 : n ≤ hi) : brT n lo hi = n := by
 unfold brT
 rw [if_neg (by omega), if_neg (by omega)]
theorem plus_eq (F : Nat) (now s : Int) (h : 1 ≤ s ∧ s ≤ 1073741824) : M_num_Plus F (now, s) = some (untilT now s) := by
 unfold M_num_Plus
 have e : M_num_number F s = some s := by
  unfold M_num_number
  rw [within_eq F s 0 1073741824 (by decide), brT_id (by omega) (by omega)]
  rfl
 have ht := timeT_in now
 simp only [numTime_eq, e, Option.bind_some]
 rw [wrap64 _ (by omega) (by omega)]
 rfl
def cfg (c : CfT) : CfT := (brT c.1 1 4, leaseT c, ttlT c, brT c.2.2.2.1 1 200, brT c.2.2.2.2.1 500 20000, brT c.2.2.2.2.2.1 1000 60000, ())
theorem config_eq (F : Nat) (c : CfT) : M_num_Config F c = some (cfg c) := by
 unfold M_num_Config
 rw [within_eq F c.1 1 4 (by decide), within_eq F c.2.1 1 1073741824 (by decide), within_eq F c.2.2.1 1 1073741824 (by decide), within_eq F c.2.2.2.1 1 200 (by decide), within_eq F c.2.2.2.2.1 500 20000 (by decide), within_eq F c.2.2.2.2.2.1 1000 60000 (by decide)]
 rfl
theorem held_eq (F : Nat) (e : Ent) (now : Int) : M_lease_Held F (e.t, now) = some (heldB e now) := by
 unfold M_lease_Held heldB
 simp only [Ent.t, numTime_eq]
 by_cases h : e.st = 1
 ·simp [h]
  rfl
 ·simp [h]
theorem owned_eq (F : Nat) (e : Ent) (tok : Int) (hm : M_entry_May F e.t = some (mayB e)) : M_lease_owned F (e.t, tok) = some (okP e tok) := by
 have h1 : M_lease_may F e.t = some (decide (e.st = 1) && mayB e) := by
  unfold M_lease_may
  have e1 : e.t.2.2.1 = e.st := rfl
  simp only [hm, e1]
  by_cases h : e.st = 1 <;> simp [h]
 unfold M_lease_owned okP
 have e2 : e.t.2.2.2.2.1 = e.tk := rfl
 simp only [h1, Option.bind_some, e2]
 cases (decide (e.st = 1) && mayB e) with
 | true => by_cases h : e.tk = tok <;> simp [h]
 | false => simp
theorem mayB_pt {e : Ent} (h : mayB e = true) : 0 ≤ e.pt ∧ e.pt ≤ 5 := by
 unfold mayB numsB at h
 simp only [Bool.and_eq_true, decide_eq_true_eq] at h
 omega
theorem pass_eq (F : Nat) (e : Ent) (tok now : Int) (c : CfT) (hm : M_entry_May F e.t = some (mayB e)) : M_lease_Pass F (e.t, tok, now, c) = some ((passE e tok now c).1.t, (passE e tok now c).2) := by
 unfold M_lease_Pass passE
 simp only [owned_eq F e tok hm, Option.bind_some, config_eq]
 by_cases h : okP e tok = 0
 ·rw [if_pos h, if_neg (by simp [h])]
  have hb := mayB_pt (okP_zero h).2.1
  have e1 : e.t.2.2.2.2.2.1 = e.pt := rfl
  by_cases h5 : e.pt = 5
  ·rw [if_pos h5, if_pos (by rw [e1]; exact decide_eq_true h5)]
   rfl
  ·rw [if_neg h5, if_neg (by rw [e1, decide_eq_true_eq]; exact h5), e1]
   have hp := plus_eq F now (leaseT c) (leaseT_in c)
   have e2 : (cfg c).2.1 = leaseT c := rfl
   rw [e2, hp, wrap64 _ (by omega) (by omega)]
   rfl
 ·rw [if_neg h, if_pos (by simp [h])]
  rfl
def doneE (e : Ent) (status : Int) (text : List UInt8) (now : Int) (c : CfT) : Ent := { overE e 2 with su := status, tx := text, ex := untilT now (ttlT c) }
theorem finish_eq (F : Nat) (e : Ent) (tok status : Int) (text : List UInt8) (now : Int) (c : CfT) (hm : M_entry_May F e.t = some (mayB e)) (hm2 : M_entry_May F (doneE e status text now c).t = some (mayB (doneE e status text now c))) :
  M_lease_Finish F (e.t, tok, status, text, now, c) = some ((finE e tok status text now c).1.t, (finE e tok status text now c).2) := by
 unfold M_lease_Finish finE
 simp only [owned_eq F e tok hm, Option.bind_some, config_eq]
 by_cases h : okP e tok = 0
 ·rw [if_pos h, if_neg (by simp [h])]
  have ho : M_lease_over F (e.t, 2) = some (overE e 2).t := rfl
  have hp := plus_eq F now (ttlT c) (ttlT_in c)
  have e2 : (cfg c).2.2.1 = ttlT c := rfl
  rw [ho, Option.bind_some, e2, hp, Option.bind_some, Option.bind_some]
  show ((M_entry_May F (doneE e status text now c).t).bind fun v5 => if (!v5) = true then some (Ent.zero.t, 1) else some ((doneE e status text now c).t, 0)) = _
  rw [hm2, Option.bind_some]
  show _ = some ((if mayB (doneE e status text now c) = true then (doneE e status text now c, 0) else (Ent.zero, 1) : Ent × Int).1.t, (if mayB (doneE e status text now c) = true then (doneE e status text now c, 0) else (Ent.zero, 1) : Ent × Int).2)
  cases mayB (doneE e status text now c) <;> rfl
 ·rw [if_neg h, if_pos (by simp [h])]
  rfl
theorem lfail_eq (F : Nat) (e : Ent) (tok : Int) (hm : M_entry_May F e.t = some (mayB e)) : M_lease_Fail F (e.t, tok) = some ((failE e tok).1.t, (failE e tok).2) := by
 unfold M_lease_Fail failE
 simp only [owned_eq F e tok hm, Option.bind_some]
 by_cases h : okP e tok = 0
 ·rw [if_pos h, if_neg (by simp [h])]
  rfl
 ·rw [if_neg h, if_pos (by simp [h])]
  rfl
theorem release_eq (F : Nat) (e : Ent) (tok now : Int) (hm : M_entry_May F e.t = some (mayB e)) : M_lease_Release F (e.t, tok, now) = some ((relE e tok now).1.t, (relE e tok now).2) := by
 unfold M_lease_Release relE
 simp only [owned_eq F e tok hm, Option.bind_some, numTime_eq]
 by_cases h : okP e tok = 0
 ·rw [if_pos h, if_neg (by simp [h])]
  rfl
 ·rw [if_neg h, if_pos (by simp [h])]
  rfl
end Go.Vm
/- Signs of a text: how many, and whether all are of some sorts (cut out of the texts of sign). No condition but on lengths. -/
namespace Go.Vm
open Go.Lib (decodeL decodeN decodeL_N decode_N decodeN_shape decodeL_le)
set_option linter.unusedVariables false
set_option linter.unusedSimpArgs false
theorem idx_nat {α : Type} (l : List α) (k : Nat) : idx l (k : Int) = l[k]? := by
 unfold idx
 rw [if_pos (by omega)]
 simp
theorem idx_mid {α : Type} (pre t : List α) (x : α) : idx (pre ++ x :: t) (pre.length : Int) = some x := by
 rw [idx_nat]; simp
def findFrom (r : Int) : Nat → List Int → Int
 | _, [] => -1
 | k, x :: t => if x = r then (k : Int) else findFrom r (k + 1) t
theorem index_tends (l : List Int) (hl : l.length ≤ 1000000000000) (v : Int) : Tends (fun F => M_slices_Index_int_int F (l, v)) (findFrom v 0 l) := by
 have loop : ∀ (t pre : List Int), l = pre ++ t → ∃ y, TendsL M_slices_Index_int_int_l0 (l, v, (l.length : Int), (pre.length : Int), ()) y ∧ sumC y (fun _ => (-1 : Int)) (fun v => v.1) = findFrom v pre.length t := by
  intro t
  induction t with
  | nil =>
   intro pre h
   simp only [List.append_nil] at h
   subst h
   refine ⟨.inl (), TendsL.fin (Tends.of fun F => ?_), rfl⟩
   unfold M_slices_Index_int_int_l0
   simp
  | cons x t ih =>
   intro pre h
   have hlen : l.length = pre.length + (t.length + 1) := by rw [h]; simp
   have h1 : (pre.length : Int) < (l.length : Int) := by omega
   have hi : idx l (pre.length : Int) = some x := by rw [h]; exact idx_mid pre t x
   simp only [findFrom]
   by_cases he : x = v
   ·rw [if_pos he]
    refine ⟨.inr ((pre.length : Int), ()), TendsL.fin (Tends.of fun F => ?_), rfl⟩
    unfold M_slices_Index_int_int_l0
    simp [h1, hi, he]
   ·rw [if_neg he]
    obtain ⟨y, q1, q2⟩ := ih (pre ++ [x]) (by rw [h]; simp)
    refine ⟨y, TendsL.step (Tends.of fun F => ?_) q1, by simpa using q2⟩
    unfold M_slices_Index_int_int_l0
    have he' : ¬ v = x := fun e => he e.symm
    have hw : IntKind.i64.wrap ((pre.length : Int) + 1) = ((pre.length + 1 : Nat) : Int) := by rw [wrap64 _ (by omega) (by omega)]; rfl
    simp [h1, hi, he', hw]
 obtain ⟨y, h1, h2⟩ := loop l [] rfl
 unfold M_slices_Index_int_int
 refine h1.run.bind ?_
 refine Tends.of fun F => ?_
 rw [← (show _ = findFrom v 0 l from h2)]
 cases y <;> rfl
theorem findFrom_mem (v : Int) : ∀ (l : List Int) (k : Nat), decide (0 ≤ findFrom v k l) = decide (v ∈ l)
 | [], k => by simp [findFrom]
 | x :: t, k => by
  unfold findFrom
  by_cases h : x = v
  ·rw [if_pos h]
   have : (0 : Int) ≤ (k : Int) := by omega
   simp [this, h]
  ·rw [if_neg h, findFrom_mem v t (k + 1)]
   have h' : ¬ v = x := fun e => h e.symm
   simp [h']
theorem contains_tends (l : List Int) (hl : l.length ≤ 1000000000000) (v : Int) : Tends (fun F => M_slices_Contains_int_int F (l, v)) (decide (v ∈ l)) := by
 unfold M_slices_Contains_int_int
 refine (index_tends l hl v).bind ?_
 exact Tends.of fun F => by rw [findFrom_mem]
def onlyL (sorts : List Int) (l : List Int) : Bool := l.all fun x => decide (sortI x ∈ sorts)
theorem only_tends (s : List UInt8) (sorts : List Int) (hl : sorts.length ≤ 1000000000000) : Tends (fun F => M_sign_Only F (s, sorts)) (onlyL sorts ((signs s).map (·.1))) := by
 have loop : ∀ (n p : Nat), s.length - p ≤ n → p ≤ s.length →
   ∃ y, TendsL M_sign_Only_l0 (sorts, (), (s, p), ()) y ∧ sumC y (fun _ => true) (fun v => v.1) = onlyL sorts ((signs (s.drop p)).map (·.1)) := by
  intro n
  induction n with
  | zero =>
   intro p hn hp
   have hpe : p = s.length := by omega
   subst hpe
   refine ⟨.inl (), TendsL.fin (Tends.of fun F => ?_), by rw [List.drop_length, signs_nil]; rfl⟩
   unfold M_sign_Only_l0
   simp
  | succ n ih =>
   intro p hn hp
   by_cases hlt : p < s.length
   case neg => exact ih p (by omega) hp
   have hpos := decodeL_pos (s.drop p)
   have hnx := next_le hlt
   rw [signs_cons (drop_ne hlt), drop_next]
   have hc := contains_tends sorts hl (sortI ((decodeL (s.drop p)).1 : Int))
   by_cases he : sortI ((decodeL (s.drop p)).1 : Int) ∈ sorts
   ·obtain ⟨y, h1, h2⟩ := ih (p + (decodeL (s.drop p)).2) (by omega) hnx
    refine ⟨y, TendsL.step ?_ h1, by rw [h2]; simp [onlyL, he]⟩
    unfold M_sign_Only_l0
    simp only [hlt, decide_true, if_true, sort_eq, Option.bind_some, runeAt_eq, runeLen_eq]
    refine hc.bind ?_
    exact Tends.of fun F => by simp [he]
   ·refine ⟨.inr (false, ()), TendsL.fin ?_, by simp [onlyL, he, sumC]⟩
    unfold M_sign_Only_l0
    simp only [hlt, decide_true, if_true, sort_eq, Option.bind_some, runeAt_eq, runeLen_eq]
    refine hc.bind ?_
    exact Tends.of fun F => by simp [he]
 obtain ⟨y, h1, h2⟩ := loop s.length 0 (by omega) (by omega)
 unfold M_sign_Only
 refine h1.run.bind ?_
 refine Tends.of fun F => ?_
 rw [List.drop_zero] at h2
 rw [← h2]
 cases y <;> rfl
theorem countLoop (s : List UInt8) (hs : s.length ≤ 100000000000) (p : Nat) (hp : p ≤ s.length) (k : Nat) (hk : k + (s.length - p) ≤ 1000000000000) : TendsL M_sign_Count_l0 ((k : Int), (), (s, p), ()) (((k + (signs (s.drop p)).length : Nat) : Int), ()) := by
 have main : ∀ n p k, s.length - p ≤ n → p ≤ s.length → k + (s.length - p) ≤ 1000000000000 → TendsL M_sign_Count_l0 ((k : Int), (), (s, p), ()) (((k + (signs (s.drop p)).length : Nat) : Int), ()) := by
  intro n
  induction n with
  | zero =>
   intro p k hn hp hk
   have : p = s.length := by omega
   subst this
   refine TendsL.fin (Tends.of fun F => ?_)
   unfold M_sign_Count_l0
   simp [signs_nil]
  | succ n ih =>
   intro p k hn hp hk
   by_cases hlt : p < s.length
   ·have hpos := decodeL_pos (s.drop p)
    have hnx := next_le hlt
    rw [signs_cons (drop_ne hlt), drop_next]
    refine TendsL.step (x' := (((k + 1 : Nat) : Int), (), (s, p + (decodeL (s.drop p)).2), ())) (Tends.of fun F => ?_) ?_
    ·have w : IntKind.i64.wrap ((k : Int) + 1) = ((k + 1 : Nat) : Int) := by rw [wrap64 _ (by omega) (by omega)]; rfl
     unfold M_sign_Count_l0
     simp only [hlt, decide_true, if_true, runeLen_eq, w]
    ·have := ih (p + (decodeL (s.drop p)).2) (k + 1) (by omega) hnx (by omega)
     rw [List.length_cons, show k + ((signs (List.drop (p + (decodeL (List.drop p s)).2) s)).length + 1) = k + 1 + (signs (List.drop (p + (decodeL (List.drop p s)).2) s)).length by omega]
     exact this
   ·have : p = s.length := by omega
    subst this
    refine TendsL.fin (Tends.of fun F => ?_)
    unfold M_sign_Count_l0
    simp [signs_nil]
 exact main _ p k (Nat.le_refl _) hp hk
theorem count_tends (s : List UInt8) (hs : s.length ≤ 100000000000) : Tends (fun F => M_sign_Count F s) ((signs s).length : Int) := by
 unfold M_sign_Count
 have := countLoop s hs 0 (by omega) 0 (by omega)
 rw [List.drop_zero, Nat.zero_add] at this
 exact this.run.bind (k := fun F (v1 : Int × Unit) => some v1.1) (Tends.of fun F => rfl)
end Go.Vm
