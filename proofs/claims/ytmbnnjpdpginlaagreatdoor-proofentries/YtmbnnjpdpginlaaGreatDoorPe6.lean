/- Entries: the document's, and their bytes. No condition. -/
import Derived.Test.YtmbnnjpdpginlaaGreatDoorPe5
namespace Go.Vm
open Go Go.Proofs
set_option linter.unusedVariables false
set_option linter.unusedSimpArgs false

def rB (e : Ent) : Bool := if decide (e.st = 1) = true then ((methF e.me).2 && ((pathF e.pa).2 && (decide ((methF e.me).1 = e.me) && (decide ((pathF e.pa).1 = e.pa) && (decide ((e.bo.length : Int) ≤ 80) && (decide (e.su = 0) && decide (e.tx = []))))))) else (decide (e.le = 0) && (decide (e.me = []) && (decide (e.pa = []) && (decide (e.bo = []) && (if decide (e.st = 2) = true then ((decide (e.su = 200) || (decide (e.su = 201) || decide (e.su = 402))) && decide ((e.tx.length : Int) ≤ 40)) else (decide (e.st = 3) && (decide (e.su = 0) && decide (e.tx = []))))))))
theorem rB_eq (e : Ent) : restB e = rB e := by
  unfold restB askedB rB
  have h80 : decide ((e.bo.length : Int) ≤ 80) = decide (e.bo.length ≤ 80) := by rw [decide_eq_decide]; omega
  have h40 : decide ((e.tx.length : Int) ≤ 40) = decide (e.tx.length ≤ 40) := by rw [decide_eq_decide]; omega
  rw [h80, h40]
  by_cases h1 : e.st = 1
  · simp only [h1, if_true, decide_true, Bool.decide_and, Bool.and_assoc]
  · by_cases h2 : e.st = 2
    · simp only [if_neg h1, if_pos h2, decide_eq_false h1, decide_eq_true h2, Bool.false_eq_true, if_false, if_true, Bool.decide_and, Bool.and_assoc, Bool.decide_or]
    · simp only [if_neg h1, if_neg h2, decide_eq_false h1, decide_eq_false h2, Bool.false_eq_true, if_false, Bool.decide_and, Bool.and_assoc]
theorem mayB_eq2 (e : Ent) : mayB e = (namedB e.te e.key && (!decide (e.ep < 1) && (!decide (1073741824 < e.ep) && (!decide (e.tk < 1) && (!decide (1073741824 < e.tk) && (!decide (e.pt < 0) && (!decide (5 < e.pt) && (decide ((e.pr.length : Int) = 32) && (!decide (e.le < 0) && (!decide (1099511627776 < e.le) && (!decide (e.ex < 0) && (!decide (1099511627776 < e.ex) && rB e)))))))))))) := by
  unfold mayB
  rw [rB_eq, Bool.and_assoc]
  congr 1
  generalize rB e = Z
  unfold numsB
  rw [Bool.eq_iff_iff]
  simp only [Bool.and_eq_true, decide_eq_true_eq, Bool.not_eq_true', decide_eq_false_iff_not]
  constructor
  · rintro ⟨h, hz⟩; refine ⟨?_, ?_, ?_, ?_, ?_, ?_, ?_, ?_, ?_, ?_, ?_, hz⟩ <;> omega
  · rintro ⟨h1, h2, h3, h4, h5, h6, h7, h8, h9, h10, h11, hz⟩; refine ⟨?_, hz⟩; omega

theorem rmay_tends (e : Ent) : Tends (fun F => M_conciergeref14_May F e.t) (mayB e) := by
  obtain ⟨N1, h1⟩ := rnamed_tends e
  obtain ⟨N2, h2⟩ := rmeth_tends e.me
  obtain ⟨N3, h3⟩ := rpath_tends5 e.pa
  refine ⟨max N1 (max N2 N3), fun F hF => ?_⟩
  have k1 : M_conciergeref14_named F e.t = some (namedB e.te e.key) := h1 F (by omega)
  have k2 : M_conciergeref05_Method F e.me = some (methF e.me) := h2 F (by omega)
  have k3 : M_conciergeref05_Path F e.pa = some (pathF e.pa) := h3 F (by omega)
  show M_conciergeref14_May F e.t = _
  unfold M_conciergeref14_May
  rw [k1, Option.bind_some, mayB_eq2]
  have e1 : e.t.2.2.1 = e.st := rfl
  have e2 : e.t.2.2.2.1 = e.ep := rfl
  have e3 : e.t.2.2.2.2.1 = e.tk := rfl
  have e4 : e.t.2.2.2.2.2.1 = e.pt := rfl
  have e5 : e.t.2.2.2.2.2.2.1 = e.pr := rfl
  have e6 : e.t.2.2.2.2.2.2.2.1 = e.le := rfl
  have e7 : e.t.2.2.2.2.2.2.2.2.1 = e.ex := rfl
  have e8 : e.t.2.2.2.2.2.2.2.2.2.1 = e.su := rfl
  have e9 : e.t.2.2.2.2.2.2.2.2.2.2.1 = e.tx := rfl
  have em : e.t.2.2.2.2.2.2.2.2.2.2.2.1 = e.me := rfl
  have ep : e.t.2.2.2.2.2.2.2.2.2.2.2.2.1 = e.pa := rfl
  have eb : e.t.2.2.2.2.2.2.2.2.2.2.2.2.2.1 = e.bo := rfl
  simp only [Bool.not_true, Bool.not_false, if_true, Option.bind_some, e1, e2, e3, e4, e5, e6, e7, e8, e9, em, ep, eb, Bool.false_eq_true, if_false, Bool.true_and]
  cases namedB e.te e.key
  case false => rfl
  simp only [Bool.not_true, Bool.not_false, if_true, Option.bind_some, e1, e2, e3, e4, e5, e6, e7, e8, e9, em, ep, eb, Bool.false_eq_true, if_false, Bool.true_and]
  cases decide (e.ep < 1)
  case true => rfl
  simp only [Bool.not_true, Bool.not_false, if_true, Option.bind_some, e1, e2, e3, e4, e5, e6, e7, e8, e9, em, ep, eb, Bool.false_eq_true, if_false, Bool.true_and]
  cases decide (1073741824 < e.ep)
  case true => rfl
  simp only [Bool.not_true, Bool.not_false, if_true, Option.bind_some, e1, e2, e3, e4, e5, e6, e7, e8, e9, em, ep, eb, Bool.false_eq_true, if_false, Bool.true_and]
  cases decide (e.tk < 1)
  case true => rfl
  simp only [Bool.not_true, Bool.not_false, if_true, Option.bind_some, e1, e2, e3, e4, e5, e6, e7, e8, e9, em, ep, eb, Bool.false_eq_true, if_false, Bool.true_and]
  cases decide (1073741824 < e.tk)
  case true => rfl
  simp only [Bool.not_true, Bool.not_false, if_true, Option.bind_some, e1, e2, e3, e4, e5, e6, e7, e8, e9, em, ep, eb, Bool.false_eq_true, if_false, Bool.true_and]
  cases decide (e.pt < 0)
  case true => rfl
  simp only [Bool.not_true, Bool.not_false, if_true, Option.bind_some, e1, e2, e3, e4, e5, e6, e7, e8, e9, em, ep, eb, Bool.false_eq_true, if_false, Bool.true_and]
  cases decide (5 < e.pt)
  case true => rfl
  simp only [Bool.not_true, Bool.not_false, if_true, Option.bind_some, e1, e2, e3, e4, e5, e6, e7, e8, e9, em, ep, eb, Bool.false_eq_true, if_false, Bool.true_and]
  cases decide ((e.pr.length : Int) = 32)
  case false => rfl
  simp only [Bool.not_true, Bool.not_false, if_true, Option.bind_some, e1, e2, e3, e4, e5, e6, e7, e8, e9, em, ep, eb, Bool.false_eq_true, if_false, Bool.true_and]
  cases decide (e.le < 0)
  case true => rfl
  simp only [Bool.not_true, Bool.not_false, if_true, Option.bind_some, e1, e2, e3, e4, e5, e6, e7, e8, e9, em, ep, eb, Bool.false_eq_true, if_false, Bool.true_and]
  cases decide (1099511627776 < e.le)
  case true => rfl
  simp only [Bool.not_true, Bool.not_false, if_true, Option.bind_some, e1, e2, e3, e4, e5, e6, e7, e8, e9, em, ep, eb, Bool.false_eq_true, if_false, Bool.true_and]
  cases decide (e.ex < 0)
  case true => rfl
  simp only [Bool.not_true, Bool.not_false, if_true, Option.bind_some, e1, e2, e3, e4, e5, e6, e7, e8, e9, em, ep, eb, Bool.false_eq_true, if_false, Bool.true_and]
  cases decide (1099511627776 < e.ex)
  case true => rfl
  unfold rB
  simp only [Bool.not_true, Bool.not_false, if_true, Option.bind_some, e1, e2, e3, e4, e5, e6, e7, e8, e9, em, ep, eb, Bool.false_eq_true, if_false, Bool.true_and]
  cases decide (e.st = 1)
  case true =>
    simp only [Bool.not_true, Bool.not_false, if_true, Option.bind_some, e1, e2, e3, e4, e5, e6, e7, e8, e9, em, ep, eb, Bool.false_eq_true, if_false, Bool.true_and]
    rw [k2, Option.bind_some, k3, Option.bind_some]
    generalize methF e.me = m
    generalize pathF e.pa = p
    obtain ⟨m, b1⟩ := m
    obtain ⟨p, b2⟩ := p
    simp only [Bool.not_true, Bool.not_false, if_true, Option.bind_some, e1, e2, e3, e4, e5, e6, e7, e8, e9, em, ep, eb, Bool.false_eq_true, if_false, Bool.true_and]
    cases b1
    case false => rfl
    simp only [Bool.not_true, Bool.not_false, if_true, Option.bind_some, e1, e2, e3, e4, e5, e6, e7, e8, e9, em, ep, eb, Bool.false_eq_true, if_false, Bool.true_and]
    cases b2
    case false => rfl
    simp only [Bool.not_true, Bool.not_false, if_true, Option.bind_some, e1, e2, e3, e4, e5, e6, e7, e8, e9, em, ep, eb, Bool.false_eq_true, if_false, Bool.true_and]
    cases decide (m = e.me)
    case false => rfl
    simp only [Bool.not_true, Bool.not_false, if_true, Option.bind_some, e1, e2, e3, e4, e5, e6, e7, e8, e9, em, ep, eb, Bool.false_eq_true, if_false, Bool.true_and]
    cases decide (p = e.pa)
    case false => rfl
    simp only [Bool.not_true, Bool.not_false, if_true, Option.bind_some, e1, e2, e3, e4, e5, e6, e7, e8, e9, em, ep, eb, Bool.false_eq_true, if_false, Bool.true_and]
    cases decide ((e.bo.length : Int) ≤ 80)
    case false => rfl
    simp only [Bool.not_true, Bool.not_false, if_true, Option.bind_some, e1, e2, e3, e4, e5, e6, e7, e8, e9, em, ep, eb, Bool.false_eq_true, if_false, Bool.true_and]
    cases decide (e.su = 0) <;> rfl
  simp only [Bool.not_true, Bool.not_false, if_true, Option.bind_some, e1, e2, e3, e4, e5, e6, e7, e8, e9, em, ep, eb, Bool.false_eq_true, if_false, Bool.true_and]
  cases decide (e.le = 0)
  case false => rfl
  simp only [Bool.not_true, Bool.not_false, if_true, Option.bind_some, e1, e2, e3, e4, e5, e6, e7, e8, e9, em, ep, eb, Bool.false_eq_true, if_false, Bool.true_and]
  cases decide (e.me = [])
  case false => rfl
  simp only [Bool.not_true, Bool.not_false, if_true, Option.bind_some, e1, e2, e3, e4, e5, e6, e7, e8, e9, em, ep, eb, Bool.false_eq_true, if_false, Bool.true_and]
  cases decide (e.pa = [])
  case false => rfl
  simp only [Bool.not_true, Bool.not_false, if_true, Option.bind_some, e1, e2, e3, e4, e5, e6, e7, e8, e9, em, ep, eb, Bool.false_eq_true, if_false, Bool.true_and]
  cases decide (e.bo = [])
  case false => rfl
  simp only [Bool.not_true, Bool.not_false, if_true, Option.bind_some, e1, e2, e3, e4, e5, e6, e7, e8, e9, em, ep, eb, Bool.false_eq_true, if_false, Bool.true_and]
  cases decide (e.st = 2)
  case true =>
    simp only [Bool.not_true, Bool.not_false, if_true, Option.bind_some, e1, e2, e3, e4, e5, e6, e7, e8, e9, em, ep, eb, Bool.false_eq_true, if_false, Bool.true_and]
    cases decide (e.su = 200)
    case true => rfl
    simp only [Bool.not_true, Bool.not_false, if_true, Option.bind_some, e1, e2, e3, e4, e5, e6, e7, e8, e9, em, ep, eb, Bool.false_eq_true, if_false, Bool.true_and]
    cases decide (e.su = 201)
    case true => rfl
    simp only [Bool.not_true, Bool.not_false, if_true, Option.bind_some, e1, e2, e3, e4, e5, e6, e7, e8, e9, em, ep, eb, Bool.false_eq_true, if_false, Bool.true_and]
    cases decide (e.su = 402) <;> rfl
  simp only [Bool.not_true, Bool.not_false, if_true, Option.bind_some, e1, e2, e3, e4, e5, e6, e7, e8, e9, em, ep, eb, Bool.false_eq_true, if_false, Bool.true_and]
  cases decide (e.st = 3)
  case false => rfl
  simp only [Bool.not_true, Bool.not_false, if_true, Option.bind_some, e1, e2, e3, e4, e5, e6, e7, e8, e9, em, ep, eb, Bool.false_eq_true, if_false, Bool.true_and]
  cases decide (e.su = 0) <;> rfl

/-! ### bytes -/
theorem nI_len (n : Int) (h0 : 0 ≤ n) (h : n ≤ 4611686018427387904) : (nI n).length ≤ 10 := numL_len _ (by omega)
theorem pnI (b : List UInt8) (hb : b.length ≤ 1000000000000) (n : Int) (h0 : 0 ≤ n) (hn : n ≤ 4611686018427387904) : Tends (fun F => M_pack_Packer_Num F ((b, false, ()), n)) ((), (b ++ nI n, false, ())) := by
  obtain ⟨k, rfl⟩ : ∃ k : Nat, n = (k : Int) := ⟨n.toNat, by omega⟩
  exact pnum_tends b hb k (by omega)
theorem txtb_len (s : List UInt8) (hs : s.length ≤ 1000000) : (txt s).length ≤ 1000010 := by
  have hl := numL_len s.length (by omega)
  unfold txt
  simp
  omega
theorem praw (F : Nat) (b s : List UInt8) (hb : b.length ≤ 1000000000000) (hs : s.length ≤ 1000000) : M_pack_Packer_Raw F ((b, false, ()), s) = some ((), (b ++ s, false, ())) := by
  unfold M_pack_Packer_Raw
  simp only
  rw [if_pos (by simp; omega)]
  rfl
theorem ptxt (b s : List UInt8) (hb : b.length ≤ 100000000000) (hs : s.length ≤ 1000000) : Tends (fun F => M_pack_Packer_Text F ((b, false, ()), s)) ((), (b ++ txt s, false, ())) := by
  have hl := numL_len s.length (by omega)
  unfold M_pack_Packer_Text
  refine Tends.bind (m := fun F => M_pack_Packer_Num F ((b, false, ()), (s.length : Int))) (pnum_tends b (by omega) s.length (by omega)) ?_
  refine Tends.bind (m := fun F => M_pack_Packer_Raw F ((b ++ numL s.length, false, ()), s)) (.of fun F => praw F _ s (by simp; omega) hs) (.of fun F => ?_)
  simp only [txt, List.append_assoc]
def Ent.small (e : Ent) : Prop := e.key.length ≤ 1000 ∧ e.pr.length ≤ 1000 ∧ e.tx.length ≤ 1000 ∧ e.me.length ≤ 1000 ∧ e.pa.length ≤ 1000 ∧ e.bo.length ≤ 1000
theorem mayB_st {e : Ent} (h : mayB e = true) : 1 ≤ e.st ∧ e.st ≤ 3 := by rcases (mayB_parts h).2.2.2 with h | h | h <;> omega
theorem mayB_su {e : Ent} (h : mayB e = true) : 0 ≤ e.su ∧ e.su ≤ 402 := by rcases (mayB_parts h).2.2.2 with h | h | h <;> omega
theorem mayB_small {e : Ent} (h : mayB e = true) : e.small := by
  obtain ⟨_, h2, h3, h4⟩ := mayB_parts h
  have := keyF_len h2
  have hp := h3.2.2.2.2.2.2.1
  unfold Ent.small
  rcases h4 with ⟨_, ha, _, hx⟩ | ⟨_, _, hm, hq, hb, _, hx⟩ | ⟨_, _, hm, hq, hb, _, hx⟩
  · obtain ⟨a1, a2, a3⟩ := askedB_parts ha
    rw [hx]
    simp
    omega
  · rw [hm, hq, hb]
    simp
    omega
  · rw [hm, hq, hb, hx]
    simp
    omega
theorem lay_tends (b : List UInt8) (hb : b.length ≤ 1000) (e : Ent) (hm : mayB e = true) : Tends (fun F => M_entry_lay F ((b, false, ()), e.t)) ((), (b ++ bytesE e, false, ())) := by
  obtain ⟨p1, p2, p3, p4⟩ := mayB_parts hm
  obtain ⟨s1, s2, s3, s4, s5, s6⟩ := mayB_small hm
  have st := mayB_st hm
  have su := mayB_su hm
  have n1 := nI_len e.te (by omega) (by omega)
  have n2 := txtb_len e.key (by omega)
  have n3 := nI_len e.st (by omega) (by omega)
  have n4 := nI_len e.ep (by omega) (by omega)
  have n5 := nI_len e.tk (by omega) (by omega)
  have n6 := nI_len e.pt (by omega) (by omega)
  have n7 := nI_len e.le (by omega) (by omega)
  have n8 := nI_len e.ex (by omega) (by omega)
  have n9 := nI_len e.su (by omega) (by omega)
  have m1 := txtb_len e.me (by omega)
  have m2 := txtb_len e.pa (by omega)
  unfold M_entry_lay
  refine Tends.bind (r := ((), (), ((), false, ()), b ++ (nI e.te ++ (txt e.key ++ (nI e.st ++ (nI e.ep ++ (nI e.tk ++ (nI e.pt ++ (e.pr ++ (nI e.le ++ nI e.ex)))))))), e.t, ())) ?_ ?_
  · refine Tends.bind (m := fun F => M_pack_Packer_Num F ((b, false, ()), e.te)) (pnI b (by omega) e.te (by omega) (by omega)) ?_
    refine Tends.bind (m := fun F => M_pack_Packer_Text F ((b ++ nI e.te, false, ()), e.key)) (ptxt _ e.key (by simp; omega) (by omega)) ?_
    refine Tends.bind (m := fun F => M_pack_Packer_Num F ((b ++ nI e.te ++ txt e.key, false, ()), e.st)) (pnI _ (by simp; omega) e.st (by omega) (by omega)) ?_
    refine Tends.bind (m := fun F => M_pack_Packer_Num F ((b ++ nI e.te ++ txt e.key ++ nI e.st, false, ()), e.ep)) (pnI _ (by simp; omega) e.ep (by omega) (by omega)) ?_
    refine Tends.bind (m := fun F => M_pack_Packer_Num F ((b ++ nI e.te ++ txt e.key ++ nI e.st ++ nI e.ep, false, ()), e.tk)) (pnI _ (by simp; omega) e.tk (by omega) (by omega)) ?_
    refine Tends.bind (m := fun F => M_pack_Packer_Num F ((b ++ nI e.te ++ txt e.key ++ nI e.st ++ nI e.ep ++ nI e.tk, false, ()), e.pt)) (pnI _ (by simp; omega) e.pt (by omega) (by omega)) ?_
    refine Tends.bind (m := fun F => M_pack_Packer_Raw F ((b ++ nI e.te ++ txt e.key ++ nI e.st ++ nI e.ep ++ nI e.tk ++ nI e.pt, false, ()), e.pr)) (.of fun F => praw F _ e.pr (by simp; omega) (by omega)) ?_
    refine Tends.bind (m := fun F => M_pack_Packer_Num F ((b ++ nI e.te ++ txt e.key ++ nI e.st ++ nI e.ep ++ nI e.tk ++ nI e.pt ++ e.pr, false, ()), e.le)) (pnI _ (by simp; omega) e.le (by omega) (by omega)) ?_
    refine Tends.bind (m := fun F => M_pack_Packer_Num F ((b ++ nI e.te ++ txt e.key ++ nI e.st ++ nI e.ep ++ nI e.tk ++ nI e.pt ++ e.pr ++ nI e.le, false, ()), e.ex)) (pnI _ (by simp; omega) e.ex (by omega) (by omega)) ?_
    exact .of fun F => by simp only [List.append_assoc]
  · obtain ⟨B, hB⟩ : ∃ B, B = b ++ (nI e.te ++ (txt e.key ++ (nI e.st ++ (nI e.ep ++ (nI e.tk ++ (nI e.pt ++ (e.pr ++ (nI e.le ++ nI e.ex)))))))) := ⟨_, rfl⟩
    have lB : B.length ≤ 10000000 := by rw [hB]; simp; omega
    have hbE : b ++ bytesE e = B ++ (if e.st = 1 then txt e.me ++ (txt e.pa ++ txt e.bo) else if e.st = 2 then nI e.su ++ txt e.tx else []) := by
      rw [hB]
      unfold bytesE
      simp only [List.append_assoc]
    rw [hbE, ← hB]
    by_cases h1 : e.st = 1
    · rw [if_pos h1]
      refine Tends.pos (by exact decide_eq_true h1) ?_
      refine Tends.bind (m := fun F => M_pack_Packer_Text F ((B, false, ()), e.me)) (ptxt B e.me (by omega) (by omega)) ?_
      refine Tends.bind (m := fun F => M_pack_Packer_Text F ((B ++ txt e.me, false, ()), e.pa)) (ptxt _ e.pa (by simp; omega) (by omega)) ?_
      refine Tends.bind (m := fun F => M_pack_Packer_Text F ((B ++ txt e.me ++ txt e.pa, false, ()), e.bo)) (ptxt _ e.bo (by simp; omega) (by omega)) ?_
      exact .of fun F => by simp only [List.append_assoc]
    · rw [if_neg h1]
      refine Tends.neg (fun h => h1 (of_decide_eq_true h)) ?_
      by_cases h2 : e.st = 2
      · rw [if_pos h2]
        refine Tends.pos (by exact decide_eq_true h2) ?_
        refine Tends.bind (m := fun F => M_pack_Packer_Num F ((B, false, ()), e.su)) (pnI B (by omega) e.su (by omega) (by omega)) ?_
        refine Tends.bind (m := fun F => M_pack_Packer_Text F ((B ++ nI e.su, false, ()), e.tx)) (ptxt _ e.tx (by simp; omega) (by omega)) ?_
        exact .of fun F => by simp only [List.append_assoc]
      · rw [if_neg h2, List.append_nil]
        exact Tends.neg (fun h => h2 (of_decide_eq_true h)) (.ret _)
theorem epack_tends (e : Ent) (hs : e.small) : Tends (fun F => M_entry_Pack F e.t) (if mayB e = true then (bytesE e, 0) else ([], 1)) := by
  unfold M_entry_Pack
  refine Tends.bind (may_tends e (by have := hs.2.2.2.1; omega) (by have := hs.2.2.2.2.1; omega) (by have := hs.2.2.2.2.2; omega)) ?_
  by_cases hm : mayB e = true
  · rw [hm, if_pos rfl]
    refine Tends.neg (by simp) ?_
    refine Tends.bind (m := fun F => M_entry_lay F (([], false, ()), e.t)) (lay_tends [] (by simp) e hm) ?_
    exact Tends.bind (m := fun F => M_pack_Packer_String F ([] ++ bytesE e, false, ())) (r := (bytesE e, bytesE e, false, ())) (.of fun F => rfl) (.ret _)
  · rw [if_neg hm, Bool.eq_false_iff.2 hm]
    exact Tends.pos rfl (.ret _)
theorem rnI (n : Int) (h0 : 0 ≤ n) (hn : n ≤ 4611686018427387904) : Tends (fun F => M_conciergeref01_Num F n) (nI n) := by
  obtain ⟨k, rfl⟩ : ∃ k : Nat, n = (k : Int) := ⟨n.toNat, by omega⟩
  exact rnum_tends k (by omega)
theorem rtxt (s : List UInt8) (hs : s.length ≤ 1000000) : Tends (fun F => M_conciergeref01_Text F s) (txt s) := by
  have hl := numL_len s.length (by omega)
  unfold M_conciergeref01_Text
  exact Tends.bind (rnum_tends s.length (by omega)) (Tends.pos (by simp; omega) (.ret _))
theorem rbytes_tends (e : Ent) (hm : mayB e = true) : Tends (fun F => M_conciergeref14_Bytes F e.t) (bytesE e) := by
  obtain ⟨p1, p2, p3, p4⟩ := mayB_parts hm
  obtain ⟨s1, s2, s3, s4, s5, s6⟩ := mayB_small hm
  have st := mayB_st hm
  have su := mayB_su hm
  have n1 := nI_len e.te (by omega) (by omega)
  have n2 := txtb_len e.key (by omega)
  have n3 := nI_len e.st (by omega) (by omega)
  have n4 := nI_len e.ep (by omega) (by omega)
  have n5 := nI_len e.tk (by omega) (by omega)
  have n6 := nI_len e.pt (by omega) (by omega)
  have n7 := nI_len e.le (by omega) (by omega)
  have n8 := nI_len e.ex (by omega) (by omega)
  have n9 := nI_len e.su (by omega) (by omega)
  have m1 := txtb_len e.me (by omega)
  have m2 := txtb_len e.pa (by omega)
  have m3 := txtb_len e.bo (by omega)
  have m4 := txtb_len e.tx (by omega)
  unfold M_conciergeref14_Bytes
  obtain ⟨B, hB⟩ : ∃ B, B = nI e.te ++ txt e.key ++ nI e.st ++ nI e.ep ++ nI e.tk ++ nI e.pt ++ e.pr ++ nI e.le ++ nI e.ex := ⟨_, rfl⟩
  have lB : B.length ≤ 10000000 := by rw [hB]; simp; omega
  refine Tends.bind (r := ((), B, e.t, ())) ?_ ?_
  · rw [hB]
    refine Tends.bind (m := fun F => M_conciergeref01_Num F e.te) (rnI e.te (by omega) (by omega)) ?_
    refine Tends.bind (m := fun F => M_conciergeref01_Text F e.key) (rtxt e.key (by omega)) ?_
    refine Tends.pos (by simp; omega) ?_
    refine Tends.bind (m := fun F => M_conciergeref01_Num F e.st) (rnI e.st (by omega) (by omega)) ?_
    refine Tends.pos (by simp; omega) ?_
    refine Tends.bind (m := fun F => M_conciergeref01_Num F e.ep) (rnI e.ep (by omega) (by omega)) ?_
    refine Tends.pos (by simp; omega) ?_
    refine Tends.bind (m := fun F => M_conciergeref01_Num F e.tk) (rnI e.tk (by omega) (by omega)) ?_
    refine Tends.pos (by simp; omega) ?_
    refine Tends.bind (m := fun F => M_conciergeref01_Num F e.pt) (rnI e.pt (by omega) (by omega)) ?_
    refine Tends.pos (by simp; omega) ?_
    refine Tends.pos (show decide ((nI e.te ++ txt e.key ++ nI e.st ++ nI e.ep ++ nI e.tk ++ nI e.pt).length + e.pr.length ≤ 9223372036854775807) = true by simp; omega) ?_
    refine Tends.bind (m := fun F => M_conciergeref01_Num F e.le) (rnI e.le (by omega) (by omega)) ?_
    refine Tends.pos (show decide ((nI e.te ++ txt e.key ++ nI e.st ++ nI e.ep ++ nI e.tk ++ nI e.pt ++ e.pr).length + (nI e.le).length ≤ 9223372036854775807) = true by simp; omega) ?_
    refine Tends.bind (m := fun F => M_conciergeref01_Num F e.ex) (rnI e.ex (by omega) (by omega)) ?_
    refine Tends.pos (show decide ((nI e.te ++ txt e.key ++ nI e.st ++ nI e.ep ++ nI e.tk ++ nI e.pt ++ e.pr ++ nI e.le).length + (nI e.ex).length ≤ 9223372036854775807) = true by simp; omega) ?_
    exact .ret _
  · have hbE : bytesE e = B ++ (if e.st = 1 then txt e.me ++ (txt e.pa ++ txt e.bo) else if e.st = 2 then nI e.su ++ txt e.tx else []) := by
      rw [hB]
      unfold bytesE
      simp only [List.append_assoc]
    rw [hbE]
    by_cases h1 : e.st = 1
    · rw [if_pos h1]
      refine Tends.bind (r := ((), B ++ txt e.me ++ txt e.pa ++ txt e.bo, e.t, ())) ?_ ?_
      · refine Tends.pos (by exact decide_eq_true h1) ?_
        refine Tends.bind (r := ((), B ++ txt e.me ++ txt e.pa ++ txt e.bo, e.t, ())) ?_ (.ret _)
        refine Tends.bind (m := fun F => M_conciergeref01_Text F e.me) (rtxt e.me (by omega)) (Tends.pos (by simp; omega) ?_)
        refine Tends.bind (m := fun F => M_conciergeref01_Text F e.pa) (rtxt e.pa (by omega)) (Tends.pos (by simp; omega) ?_)
        refine Tends.bind (m := fun F => M_conciergeref01_Text F e.bo) (rtxt e.bo (by omega)) (Tends.pos (by simp; omega) ?_)
        exact .ret _
      · have h2 : ¬ (e.st = 2) := by omega
        refine Tends.bind (r := (B ++ txt e.me ++ txt e.pa ++ txt e.bo, ())) (Tends.neg (fun h => h2 (of_decide_eq_true h)) (.ret _)) (.of fun F => by simp only [List.append_assoc])
    · rw [if_neg h1]
      refine Tends.bind (r := ((), B, e.t, ())) (Tends.neg (fun h => h1 (of_decide_eq_true h)) (.ret _)) ?_
      by_cases h2 : e.st = 2
      · rw [if_pos h2]
        refine Tends.bind (r := (B ++ nI e.su ++ txt e.tx, ())) ?_ (.of fun F => by simp only [List.append_assoc])
        refine Tends.pos (by exact decide_eq_true h2) ?_
        refine Tends.bind (r := (B ++ nI e.su ++ txt e.tx, ())) ?_ (.ret _)
        refine Tends.bind (m := fun F => M_conciergeref01_Num F e.su) (rnI e.su (by omega) (by omega)) (Tends.pos (by simp; omega) ?_)
        refine Tends.bind (m := fun F => M_conciergeref01_Text F e.tx) (rtxt e.tx (by omega)) (Tends.pos (by simp; omega) ?_)
        exact .ret _
      · rw [if_neg h2, List.append_nil]
        exact Tends.bind (r := (B, ())) (Tends.neg (fun h => h2 (of_decide_eq_true h)) (.ret _)) (.ret _)

end Go.Vm
