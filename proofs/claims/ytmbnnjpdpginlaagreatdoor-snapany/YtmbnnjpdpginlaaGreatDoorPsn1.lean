/- Snapshots, plainly: which lists may be, their bytes, these read again; the program's. No condition. -/
import Derived.Test.YtmbnnjpdpginlaaGreatDoorPe7
import Derived.Test.YtmbnnjpdpginlaaGreatDoorPfr
import Derived.Test.YtmbnnjpdpginlaaGreatDoorFsnap
namespace Go.Vm
open Go Go.Proofs
set_option linter.unusedVariables false
set_option linter.unusedSimpArgs false

/-! ### the order of names -/
theorem less_irrefl : ∀ a : List UInt8, Op.bytesLess a a = false
  | [] => rfl
  | c :: a => by
    show (decide (c < c) || (c == c && Op.bytesLess a a)) = false
    rw [less_irrefl a]
    simp
theorem less_swap : ∀ a b : List UInt8, (!(Op.bytesLess a b || decide (a = b))) = Op.bytesLess b a
  | [], [] => rfl
  | [], c :: b => rfl
  | c :: a, [] => rfl
  | c :: a, d :: b => by
    show (!((decide (c < d) || (c == d && Op.bytesLess a b)) || decide (c :: a = d :: b))) = (decide (d < c) || (d == c && Op.bytesLess b a))
    have ih := less_swap a b
    by_cases h1 : c = d
    · subst h1
      have hc : ¬ (c < c) := by simp
      have : decide (c :: a = c :: b) = decide (a = b) := by simp
      rw [this, decide_eq_false hc]
      simp only [Bool.false_or, beq_self_eq_true, Bool.true_and]
      exact ih
    · have e1 : (c == d) = false := by simpa using h1
      have e2 : (d == c) = false := by simpa using fun h => h1 h.symm
      have e3 : decide (c :: a = d :: b) = false := decide_eq_false (fun h => h1 (List.cons.inj h).1)
      rw [e1, e2, e3]
      have h2 : c.toNat ≠ d.toNat := fun h => h1 (UInt8.toNat_inj.1 h)
      have e4 : (!decide (c < d)) = decide (d < c) := by
        rw [Bool.eq_iff_iff]
        simp only [Bool.not_eq_true', decide_eq_false_iff_not, decide_eq_true_eq, UInt8.lt_iff_toNat_lt]
        omega
      simpa using e4
def aheadB (t : Int) (k : List UInt8) (t' : Int) (k' : List UInt8) : Bool := decide (t < t') || (decide (t = t') && Op.bytesLess k k')
def aheadE (a b : Ent) : Bool := aheadB a.te a.key b.te b.key

def Ent.o (x : En) : Ent := ⟨x.1, x.2.1, x.2.2.1, x.2.2.2.1, x.2.2.2.2.1, x.2.2.2.2.2.1, x.2.2.2.2.2.2.1, x.2.2.2.2.2.2.2.1, x.2.2.2.2.2.2.2.2.1, x.2.2.2.2.2.2.2.2.2.1, x.2.2.2.2.2.2.2.2.2.2.1, x.2.2.2.2.2.2.2.2.2.2.2.1, x.2.2.2.2.2.2.2.2.2.2.2.2.1, x.2.2.2.2.2.2.2.2.2.2.2.2.2.1⟩
theorem Ent.list (l : List En) : ∃ m : List Ent, m.map Ent.t = l := ⟨l.map Ent.o, by rw [List.map_map]; exact (List.map_congr_left fun x _ => rfl).trans (List.map_id l)⟩
theorem idxT (l : List Ent) (i : Nat) (n : Int) (hn : n = (i : Int)) (h : i < l.length) : idx (l.map Ent.t) n = some l[i].t := by
  rw [idxN (l.map Ent.t) i n hn (by simpa using h)]
  simp

/-! ### may be -/
def okG (top : Int) : Option Ent → List Ent → Bool
  | _, [] => true
  | p, e :: r => mayB e && (!decide (top < e.ep) && ((match p with
    | none => true
    | some q => aheadE q e) && okG top (some e) r))
theorem okG_cons (top : Int) (p : Option Ent) (e : Ent) (r : List Ent) : okG top p (e :: r) = (mayB e && (!decide (top < e.ep) && ((match p with
    | none => true
    | some q => aheadE q e) && okG top (some e) r))) := by rw [okG.eq_def]
def mayL (l : List Ent) (top : Int) : Bool := decide (0 ≤ top ∧ top ≤ 1073741824 ∧ l.length ≤ 200) && okG top none l
theorem behind_eq (F : Nat) (e q : Ent) : M_snap_behind F (e.t, q.t) = some (aheadE q e) := by
  unfold M_snap_behind aheadE aheadB
  have e1 : e.t.1 = e.te := rfl
  have e2 : e.t.2.1 = e.key := rfl
  have q1 : q.t.1 = q.te := rfl
  have q2 : q.t.2.1 = q.key := rfl
  simp only [e1, e2, q1, q2, less_swap]
  have hc : decide (e.te = q.te) = decide (q.te = e.te) := by rw [decide_eq_decide]; exact eq_comm
  rw [hc]
  cases decide (q.te < e.te) <;> cases decide (q.te = e.te) <;> simp
abbrev BdR : Type := Unit ⊕ (Bool × Unit)
def bdR (b : Bool) : BdR := if b = true then .inl () else .inr (false, ())
def prevE (l : List Ent) : Nat → Option Ent
  | 0 => none
  | k + 1 => l[k]?
def Smalls (l : List Ent) : Prop := ∀ e ∈ l, e.me.length ≤ 1000000 ∧ e.pa.length ≤ 1000000 ∧ e.bo.length ≤ 1000000
theorem smay_loop (l : List Ent) (hl : l.length ≤ 1000000) (hs : Smalls l) (top : Int) : ∀ (m k : Nat), k + m = l.length → TendsL M_snap_may_l0 (l.map Ent.t, top, l.map Ent.t, (l.length : Int), (k : Int), ()) (bdR (okG top (prevE l k) (l.drop k)))
  | 0, k, hk => by
    refine TendsL.fin (.of fun F => ?_)
    unfold M_snap_may_l0
    rw [if_neg (by simp; omega), List.drop_of_length_le (by omega)]
    rfl
  | m + 1, k, hk => by
    have hlt : k < l.length := by omega
    have hd : l.drop k = l[k] :: l.drop (k + 1) := List.drop_eq_getElem_cons hlt
    obtain ⟨e, he⟩ : ∃ e, e = l[k] := ⟨_, rfl⟩
    have hi : idx (l.map Ent.t) (k : Int) = some e.t := by rw [idxT l k _ rfl hlt, he]
    have hmem : e ∈ l := by rw [he]; exact List.getElem_mem hlt
    obtain ⟨s1, s2, s3⟩ := hs e hmem
    have hm := may_tends e s1 s2 s3
    obtain ⟨pb, hpb⟩ : ∃ pb, pb = (match prevE l k with
      | none => true
      | some q => aheadE q e) := ⟨_, rfl⟩
    have hst : Tends (fun F => M_snap_may_l0 F (l.map Ent.t, top, l.map Ent.t, (l.length : Int), (k : Int), ())) (if (mayB e && (!decide (top < e.ep) && pb)) = true then .inl (l.map Ent.t, top, l.map Ent.t, (l.length : Int), ((k + 1 : Nat) : Int), ()) else .inr (.inr (false, ()))) := by
      unfold M_snap_may_l0
      refine Tends.pos (by simp; omega) (Tends.bind (.const hi) ?_)
      refine Tends.bind (r := (l.map Ent.t, top, l.map Ent.t, (l.length : Int), (k : Int), !(mayB e && (!decide (top < e.ep) && pb)), ())) (Tends.bind hm ?_) ?_
      · cases mayB e
        · exact Tends.neg (by simp) (.ret _)
        refine Tends.pos rfl ?_
        have e1 : e.t.2.2.2.1 = e.ep := rfl
        simp only [e1]
        cases decide (top < e.ep)
        · refine Tends.pos rfl ?_
          cases k with
          | zero =>
            have : pb = true := hpb
            rw [this]
            exact Tends.neg (by simp) (.ret _)
          | succ j =>
            have hj : j < l.length := by omega
            have e2 : IntKind.i64.wrap (((j + 1 : Nat) : Int) - 1) = (j : Int) := by rw [wrap64] <;> omega
            have hp : pb = aheadE l[j] e := by
              rw [hpb, show prevE l (j + 1) = some l[j] from List.getElem?_eq_getElem hj]
            rw [hp]
            refine Tends.pos (by rw [decide_eq_true_eq]; show (0 : Int) < ((j + 1 : Nat) : Int); omega) (Tends.bind (.const (by simp only [e2]; exact idxT l j _ rfl hj)) (.of fun F => ?_))
            simp only [behind_eq]
            rfl
        · exact Tends.neg (by simp) (.ret _)
      · cases mayB e && (!decide (top < e.ep) && pb)
        · exact Tends.pos rfl (.ret _)
        · refine Tends.neg (by simp) (.of fun F => ?_)
          simp only [next_nat k (by omega)]
          rfl
    rw [hd, ← he]
    have hG : okG top (prevE l k) (e :: l.drop (k + 1)) = ((mayB e && (!decide (top < e.ep) && pb)) && okG top (some e) (l.drop (k + 1))) := by
      rw [okG_cons, ← hpb]
      simp only [Bool.and_assoc]
    rw [hG]
    cases hb : (mayB e && (!decide (top < e.ep) && pb))
    · rw [hb] at hst
      exact TendsL.fin hst
    · rw [hb] at hst
      rw [Bool.true_and]
      have := smay_loop l hl hs top m (k + 1) (by omega)
      rw [show prevE l (k + 1) = some e from (List.getElem?_eq_getElem hlt).trans (by rw [he])] at this
      exact TendsL.step hst this
theorem smay_tends (l : List Ent) (hl : l.length ≤ 1000000) (hs : Smalls l) (top : Int) : Tends (fun F => M_snap_may F (l.map Ent.t, top)) (mayL l top) := by
  unfold M_snap_may mayL
  obtain ⟨c, hc⟩ : ∃ c, c = decide (0 ≤ top ∧ top ≤ 1073741824 ∧ l.length ≤ 200) := ⟨_, rfl⟩
  rw [← hc]
  refine Tends.bind (r := (l.map Ent.t, top, decide (top < 0 ∨ 1073741824 < top), ())) (.of fun F => ?_) ?_
  · by_cases h : top < 0
    · simp [h]
    · simp [h]
  refine Tends.bind (r := (l.map Ent.t, top, !c, ())) (.of fun F => ?_) ?_
  · by_cases h : top < 0 ∨ 1073741824 < top
    · have : c = false := by rw [hc]; exact decide_eq_false (fun q => by omega)
      rw [this, decide_eq_true h]
      rfl
    · rw [decide_eq_false h, if_pos rfl]
      have : decide (200 < ((l.map Ent.t).length : Int)) = !c := by
        rw [hc, Bool.eq_iff_iff]
        simp
        omega
      simp only [this]
  cases c
  · exact Tends.pos rfl (.ret _)
  · refine Tends.neg (by simp) (Tends.bind (r := bdR (okG top none l)) ?_ (.of fun F => ?_))
    · have := smay_loop l hl hs top l.length 0 (by omega)
      rw [List.drop_zero] at this
      simp only [List.length_map]
      exact this.run
    · unfold bdR
      cases okG top none l <;> rfl
theorem okG_all {top : Int} : ∀ {l : List Ent} {p : Option Ent}, okG top p l = true → ∀ e ∈ l, mayB e = true
  | [], _, _, e, h => by cases h
  | x :: l, p, h, e, he => by
    rw [okG_cons] at h
    simp only [Bool.and_eq_true] at h
    rcases List.mem_cons.1 he with rfl | he
    · exact h.1
    · exact okG_all h.2.2.2 e he
theorem mayL_parts {l : List Ent} {top : Int} (h : mayL l top = true) : (0 ≤ top ∧ top ≤ 1073741824 ∧ l.length ≤ 200) ∧ okG top none l = true ∧ ∀ e ∈ l, mayB e = true := by
  unfold mayL at h
  simp only [Bool.and_eq_true, decide_eq_true_eq] at h
  exact ⟨h.1, h.2, okG_all h.2⟩

/-! ### written -/
def cs1 : List UInt8 := [99, 115, 49]
def headS (top : Int) (n : Nat) : List UInt8 := cs1 ++ nI top ++ nI (n : Int)
def snapW (l : List Ent) (top : Int) : List UInt8 := frm (headS top l.length) ++ l.flatMap fun e => frm (bytesE e)
theorem wstr_eq (F : Nat) (l s : List UInt8) (hl : l.length ≤ 1000000000000) (hs : s.length ≤ 1000000000000) : ∃ r, M_strings_Builder_WriteString F (((), l, ()), s) = some (r, ((), l ++ s, ())) := by
  unfold M_strings_Builder_WriteString
  refine ⟨((s.length : Int), ()), ?_⟩
  simp only [M_strings_Builder_copyCheck, Option.bind_some]
  rw [if_pos (by rw [decide_eq_true_eq]; omega)]
  rfl
theorem headS_len (top : Int) (n : Nat) (h0 : 0 ≤ top) (h1 : top ≤ 1073741824) (hn : n ≤ 200) : (headS top n).length ≤ 10 := by
  have l1 := nI_le 5 top 1073741824 (by omega) (by omega) (by decide)
  have l2 := nI_le 2 (n : Int) 200 (by omega) (by omega) (by decide)
  unfold headS cs1
  simp
  omega
theorem swrite_loop (l : List Ent) (hl : l.length ≤ 200) (hm : ∀ e ∈ l, mayB e = true) : ∀ (m k : Nat) (acc : List UInt8), k + m = l.length → acc.length + 243 * m ≤ 1000000 →
    TendsL M_snap_Write_l0 ((), l.map Ent.t, (l.length : Int), (k : Int), ((), (), ()), acc, ()) ((), ((), (), ()), acc ++ (l.drop k).flatMap (fun e => frm (bytesE e)), ())
  | 0, k, acc, hk, ha => by
    refine TendsL.fin (.of fun F => ?_)
    unfold M_snap_Write_l0
    rw [if_neg (by simp; omega), List.drop_of_length_le (by omega)]
    simp
  | m + 1, k, acc, hk, ha => by
    have hlt : k < l.length := by omega
    have hd : l.drop k = l[k] :: l.drop (k + 1) := List.drop_eq_getElem_cons hlt
    obtain ⟨e, he⟩ : ∃ e, e = l[k] := ⟨_, rfl⟩
    have hi : idx (l.map Ent.t) (k : Int) = some e.t := by rw [idxT l k _ rfl hlt, he]
    have hmay : mayB e = true := hm e (by rw [he]; exact List.getElem_mem hlt)
    have hb := bytesE_len hmay
    have hf := frm_len (bytesE e)
    have hp := epack_tends e (mayB_small hmay)
    rw [hmay, if_pos rfl] at hp
    have ih := swrite_loop l hl hm m (k + 1) (acc ++ frm (bytesE e)) (by omega) (by rw [List.length_append]; omega)
    rw [hd, ← he, List.flatMap_cons, ← List.append_assoc]
    refine TendsL.step ?_ ih
    unfold M_snap_Write_l0
    refine Tends.pos (by simp; omega) (Tends.bind (.const hi) (Tends.bind hp (Tends.bind (make_tends (bytesE e) (by omega)) ?_)))
    obtain ⟨r, hr⟩ := wstr_eq 0 acc (frm (bytesE e)) (by omega) (by omega)
    refine Tends.bind (r := (r, ((), acc ++ frm (bytesE e), ()))) (.of fun F => hr) (.of fun F => ?_)
    simp only [next_nat k (by omega)]
theorem swrite_tends (l : List Ent) (hl : l.length ≤ 1000000) (hs : Smalls l) (top : Int) : Tends (fun F => M_snap_Write F (l.map Ent.t, top)) (if mayL l top = true then (snapW l top, 0) else ([], 1)) := by
  unfold M_snap_Write
  refine Tends.bind (smay_tends l hl hs top) ?_
  by_cases hm : mayL l top = true
  · rw [hm, if_pos rfl]
    obtain ⟨⟨h0, h1, h2⟩, _, hall⟩ := mayL_parts hm
    have l1 := nI_len top (by omega) (by omega)
    have l2 := nI_len (l.length : Int) (by omega) (by omega)
    have lh := headS_len top l.length h0 h1 h2
    have lf := frm_len (headS top l.length)
    refine Tends.neg (by simp) ?_
    refine Tends.bind (r := (l.map Ent.t, frm (headS top l.length), ())) ?_ ?_
    · refine Tends.bind (m := fun F => M_pack_Packer_Raw F (([], false, ()), cs1)) (.of fun F => praw F [] cs1 (by simp) (by simp [cs1])) ?_
      refine Tends.bind (m := fun F => M_pack_Packer_Num F (([] ++ cs1, false, ()), top)) (pnI _ (by simp [cs1]) top h0 (by omega)) ?_
      refine Tends.bind (m := fun F => M_pack_Packer_Num F (([] ++ cs1 ++ nI top, false, ()), ((l.map Ent.t).length : Int))) (r := ((), headS top l.length, false, ())) ?_ ?_
      · have := pnI ([] ++ cs1 ++ nI top) (by simp [cs1]; omega) (l.length : Int) (by omega) (by omega)
        rw [List.length_map]
        exact this
      · refine Tends.bind (m := fun F => M_pack_Packer_String F (headS top l.length, false, ())) (r := (headS top l.length, headS top l.length, false, ())) (.of fun F => rfl) ?_
        exact Tends.bind (make_tends (headS top l.length) (by omega)) (.ret _)
    · obtain ⟨r, hr⟩ := wstr_eq 0 [] (frm (headS top l.length)) (by simp) (by omega)
      refine Tends.bind (r := (r, ((), [] ++ frm (headS top l.length), ()))) (.of fun F => hr) ?_
      have hw := swrite_loop l h2 hall l.length 0 ([] ++ frm (headS top l.length)) (by omega) (by simp; omega)
      rw [List.drop_zero] at hw
      simp only [List.length_map]
      refine Tends.bind hw.run ?_
      refine Tends.bind (m := fun F => M_strings_Builder_String F ((), [] ++ frm (headS top l.length) ++ l.flatMap (fun e => frm (bytesE e)), ())) (r := ([] ++ frm (headS top l.length) ++ l.flatMap (fun e => frm (bytesE e)), (), (), ())) (.of fun F => rfl) (.ret _)
  · rw [if_neg hm, Bool.eq_false_iff.2 hm]
    exact Tends.pos rfl (.ret _)
theorem frms_len : ∀ (l : List Ent), (∀ e ∈ l, mayB e = true) → (l.flatMap fun e => frm (bytesE e)).length ≤ 243 * l.length
  | [], _ => by simp
  | e :: l, h => by
    have := frms_len l (fun x hx => h x (List.mem_cons_of_mem _ hx))
    have hb := bytesE_len (h e (List.mem_cons_self ..))
    have hf := frm_len (bytesE e)
    rw [List.flatMap_cons, List.length_append, List.length_cons]
    omega
theorem snapW_len {l : List Ent} {top : Int} (h : mayL l top = true) : (snapW l top).length ≤ 20 + 243 * l.length := by
  obtain ⟨⟨h0, h1, h2⟩, _, hall⟩ := mayL_parts h
  have := headS_len top l.length h0 h1 h2
  have hf := frm_len (headS top l.length)
  have hl := frms_len l hall
  unfold snapW
  rw [List.length_append]
  omega

end Go.Vm
