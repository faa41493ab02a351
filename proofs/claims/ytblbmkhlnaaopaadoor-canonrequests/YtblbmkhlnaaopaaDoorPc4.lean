/- The laws of forms: plain. No condition. -/
import Derived.Test.YtblbmkhlnaaopaaDoorPc3
import Derived.Test.YtblbmkhlnaaopaaDoorPsha4
import Derived.Test.YtblbmkhlnaaopaaDoorPnum
import Derived.Test.YtblbmkhlnaaopaaDoorFlaw5
namespace Go.Vm
open Go Go.Proofs
set_option linter.unusedVariables false

/-! ### fingerprints -/
def txt (s : List UInt8) : List UInt8 := numL s.length ++ s
theorem ptext_tends (b s : List UInt8) (hb : b.length ≤ 100000) (hs : s.length ≤ 1000) : Tends (fun F => M_pack_Packer_Text F ((b, false, ()), s)) ((), (b ++ txt s, false, ())) := by
  have hl := numL_len s.length (by omega)
  unfold M_pack_Packer_Text
  refine Tends.bind (m := fun F => M_pack_Packer_Num F ((b, false, ()), (s.length : Int))) (pnum_tends b (by omega) s.length (by omega)) ?_
  refine Tends.bind (m := fun F => M_pack_Packer_Raw F ((b ++ numL s.length, false, ()), s)) (r := ((), (b ++ numL s.length ++ s, false, ()))) (.of fun F => ?_) (.of fun F => ?_)
  · unfold M_pack_Packer_Raw
    simp only
    rw [if_pos (by simp; omega)]
    rfl
  · simp only [txt, List.append_assoc]
theorem txt_len (s : List UInt8) (hs : s.length ≤ 1000) : (txt s).length ≤ 1010 := by
  have hl := numL_len s.length (by omega)
  unfold txt
  simp
  omega
def prt (m p b : List UInt8) : List UInt8 := dig (txt m ++ txt p ++ txt b)
theorem print_tends (m p b : List UInt8) (hm : m.length ≤ 1000) (hp : p.length ≤ 1000) (hb : b.length ≤ 1000) : Tends (fun F => M_canon_Print F (m, p, b)) (prt m p b) := by
  have l1 := txt_len m hm
  have l2 := txt_len p hp
  have l3 := txt_len b hb
  unfold M_canon_Print
  refine Tends.bind (m := fun F => M_pack_Packer_Text F (([], false, ()), m)) (ptext_tends [] m (by simp) hm) ?_
  refine Tends.bind (m := fun F => M_pack_Packer_Text F (([] ++ txt m, false, ()), p)) (ptext_tends ([] ++ txt m) p (by simp; omega) hp) ?_
  refine Tends.bind (m := fun F => M_pack_Packer_Text F (([] ++ txt m ++ txt p, false, ()), b)) (ptext_tends ([] ++ txt m ++ txt p) b (by simp; omega) hb) ?_
  refine Tends.bind (m := fun F => M_pack_Packer_String F ([] ++ txt m ++ txt p ++ txt b, false, ())) (r := (txt m ++ txt p ++ txt b, txt m ++ txt p ++ txt b, false, ())) (.of fun F => rfl) ?_
  exact Tends.bind (sha_tends (txt m ++ txt p ++ txt b) (by simp; omega)) (.ret _)
theorem rtext_tends (s : List UInt8) (hs : s.length ≤ 1000) : Tends (fun F => M_conciergeref01_Text F s) (txt s) := by
  have hl := numL_len s.length (by omega)
  unfold M_conciergeref01_Text
  exact Tends.bind (rnum_tends s.length (by omega)) (Tends.pos (by simp; omega) (.ret _))
theorem rprint_tends (m p b : List UInt8) (hm : m.length ≤ 1000) (hp : p.length ≤ 1000) (hb : b.length ≤ 1000) : Tends (fun F => M_conciergeref05_Print F (m, p, b)) (prt m p b) := by
  have l1 := txt_len m hm
  have l2 := txt_len p hp
  have l3 := txt_len b hb
  unfold M_conciergeref05_Print
  refine Tends.bind (r := (prt m p b, ())) ?_ (.ret _)
  refine Tends.bind (rtext_tends m hm) (Tends.bind (rtext_tends p hp) (Tends.pos (by simp; omega) (Tends.bind (rtext_tends b hb) (Tends.pos (by simp; omega) (Tends.bind (ref3_tends _ (by simp; omega)) (.ret _))))))

theorem awake5 : Tends (fun F => M_conciergelaw05_awake F ()) true := by
  unfold M_conciergelaw05_awake
  have h1 : Tends (fun F => M_canon_Path F [47, 97, 47, 47, 98, 47, 46, 46, 47, 99, 37, 50, 102, 100]) ([47, 97, 47, 99, 37, 50, 70, 100], true) := Tends.mono (fun F F' h => mo_canon_Path h _) 40 (by kernel_rfl)
  have h2 : Tends (fun F => M_canon_Method F [112, 111, 115, 116]) ([80, 79, 83, 84], true) := Tends.mono (fun F F' h => mo_canon_Method h _) 40 (by kernel_rfl)
  have h3 : Tends (fun F => M_canon_Key F [97, 45, 49]) true := Tends.mono (fun F F' h => mo_canon_Key h _) 40 (by kernel_rfl)
  have h4 := print_tends [97] [98] [99] (by simp) (by simp) (by simp)
  refine Tends.bind h1 (Tends.bind h2 (Tends.bind (r := ([47, 97, 47, 99, 37, 50, 70, 100], [80, 79, 83, 84], true, ())) (.of fun F => rfl) ?_))
  refine Tends.bind (r := ([80, 79, 83, 84], true, ())) (.of fun F => rfl) (Tends.bind (r := (true, ())) (.of fun F => rfl) ?_)
  refine Tends.bind (r := (true, ())) (Tends.pos rfl (Tends.bind h3 (.ret _))) ?_
  refine Tends.bind (r := (true, ())) (Tends.pos rfl (Tends.bind h4 (.of fun F => ?_))) (.ret _)
  have : (prt [97] [98] [99]).length = 32 := dig_len _
  rw [this]
  rfl

/-- PATHS. -/
theorem pure_conciergelaw05_CanonPaths (s : List UInt8) : ∃ F, M_conciergelaw05_CanonPaths F s = some true := by
  refine Tends.ex ?_
  unfold M_conciergelaw05_CanonPaths
  refine Tends.bind awake5 (Tends.neg (by simp) ?_)
  by_cases h100 : 100 < s.length
  · exact Tends.pos (by simp; omega) (.ret _)
  refine Tends.neg (by simp; omega) (Tends.bind (path_tends s) (Tends.bind (rpath_tends5 s) (Tends.bind (path_tends (pathF s).1) ?_)))
  refine Tends.of fun F => ?_
  cases hb : (pathF s).2
  · simp
  · rw [pathF_again s hb]
    simp

/-- NAMES. -/
theorem pure_conciergelaw05_CanonNames (m k : List UInt8) : ∃ F, M_conciergelaw05_CanonNames F (m, k) = some true := by
  refine Tends.ex ?_
  unfold M_conciergelaw05_CanonNames
  refine Tends.bind awake5 (Tends.neg (by simp) ?_)
  by_cases h1 : 60 < m.length
  · exact Tends.bind (r := (m, k, true, ())) (.of fun F => if_neg (by simp; omega)) (Tends.pos rfl (.ret _))
  refine Tends.bind (r := (m, k, decide (60 < (k.length : Int)), ())) (.of fun F => if_pos (by simp; omega)) ?_
  by_cases h2 : 60 < k.length
  · exact Tends.pos (by simp; omega) (.ret _)
  refine Tends.neg (by simp; omega) (Tends.bind (meth_tends m) (Tends.bind (rmeth_tends m) (Tends.bind (meth_tends (methF m).1) ?_)))
  refine Tends.bind (r := (k, (methF m).1, (methF m).2, (methF (methF m).1).1, (methF (methF m).1).2, true, ())) (.of fun F => by simp) ?_
  refine Tends.bind (r := (k, true, ())) (.of fun F => ?_) ?_
  · rw [if_pos rfl]
    cases hb : (methF m).2
    · rfl
    · rw [methF_again m hb]
      simp
  · refine Tends.bind (r := (true, ())) (Tends.pos rfl (Tends.bind (key_tends k) (Tends.bind (rkey_tends k) (.of fun F => ?_)))) (.ret _)
    simp

/-- PRINTS. -/
theorem pure_conciergelaw05_CanonPrints (m p b : List UInt8) : ∃ F, M_conciergelaw05_CanonPrints F (m, p, b) = some true := by
  refine Tends.ex ?_
  unfold M_conciergelaw05_CanonPrints
  refine Tends.bind awake5 (Tends.neg (by simp) ?_)
  by_cases h1 : 100 < m.length
  · refine Tends.bind (r := (m, p, b, true, ())) (.of fun F => if_neg (by simp; omega)) ?_
    exact Tends.bind (r := (m, p, b, true, ())) (.of fun F => if_neg (by simp)) (Tends.pos rfl (.ret _))
  refine Tends.bind (r := (m, p, b, decide (100 < (p.length : Int)), ())) (.of fun F => if_pos (by simp; omega)) ?_
  by_cases h2 : 100 < p.length
  · exact Tends.bind (r := (m, p, b, true, ())) (.of fun F => if_neg (by simp; omega)) (Tends.pos rfl (.ret _))
  refine Tends.bind (r := (m, p, b, decide (100 < (b.length : Int)), ())) (.of fun F => if_pos (by simp; omega)) ?_
  by_cases h3 : 100 < b.length
  · exact Tends.pos (by simp; omega) (.ret _)
  refine Tends.neg (by simp; omega) ?_
  refine Tends.bind (print_tends m p b (by omega) (by omega) (by omega)) (Tends.bind (rprint_tends m p b (by omega) (by omega) (by omega)) (Tends.neg (by simp) ?_))
  cases p with
  | nil => exact Tends.pos (by simp) (.ret _)
  | cons c t =>
  have s0 : sub (c :: t) 0 1 = some [c] := by simpa using subN (c :: t) 0 1 (by omega) (by simp)
  have s1 : sub (c :: t) 1 ((c :: t).length : Int) = some t := by simpa using subE (c :: t) 1 (by simp)
  have ht : t.length ≤ 100 := by simp at h2; omega
  refine Tends.neg (by simp; omega) ?_
  refine Tends.bind (r := (m, c :: t, b, prt m (c :: t) b, prt (m ++ [c]) t b, ())) ?_ ?_
  · exact Tends.bind (.const s0) (Tends.pos (by simp; omega) (Tends.bind (.const s1) (Tends.bind (print_tends (m ++ [c]) t b (by simp; omega) (by omega) (by omega)) (.ret _))))
  · refine Tends.bind (r := (true, ())) ?_ (.ret _)
    by_cases he : prt (m ++ [c]) t b = prt m (c :: t) b
    · refine Tends.pos (by simp [he]) ?_
      refine Tends.bind (.const s0) (Tends.pos (by simp; omega) (Tends.bind (.const s1) (Tends.bind (rprint_tends (m ++ [c]) t b (by simp; omega) (by omega) (by omega)) (Tends.bind (rprint_tends m (c :: t) b (by omega) (by omega) (by omega)) (.of fun F => ?_)))))
      rw [decide_eq_true he]
    · exact Tends.neg (by simp [he]) (.ret _)

/-! ### requests -/
abbrev Rq : Type := Int × Int × Int × List UInt8 × List UInt8 × List UInt8 × List UInt8 × Unit
def rqZ : Rq := (0, 0, 0, [], [], [], [], ())
def rqOk (cl se te : Int) (key me pa bo : List UInt8) : Bool := (methF me).2 && (pathF pa).2 && decide (0 ≤ te ∧ te ≤ 3 ∧ 0 ≤ cl ∧ cl ≤ 3 ∧ 0 ≤ se ∧ se ≤ 1073741824) && keyF key && decide (bo.length ≤ 80)
def rqF (cl se te : Int) (key me pa bo : List UInt8) : Rq × Bool := if rqOk cl se te key me pa bo = true then ((cl, se, te, key, (methF me).1, (pathF pa).1, bo, ()), true) else (rqZ, false)
theorem req_tends (cl se te : Int) (key me pa bo : List UInt8) : Tends (fun F => M_canon_Request F (cl, se, te, key, me, pa, bo, ())) (rqF cl se te key me pa bo) := by
  obtain ⟨m, a, hm⟩ : ∃ m a, methF me = (m, a) := ⟨_, _, rfl⟩
  obtain ⟨p, b, hp⟩ : ∃ p b, pathF pa = (p, b) := ⟨_, _, rfl⟩
  have tm := meth_tends me
  have tp := path_tends pa
  rw [hm] at tm
  rw [hp] at tp
  obtain ⟨c1, h1⟩ : ∃ c, c = decide (0 ≤ te ∧ te < 4) := ⟨_, rfl⟩
  obtain ⟨c2, h2⟩ : ∃ c, c = (c1 && decide (0 ≤ cl)) := ⟨_, rfl⟩
  obtain ⟨c3, h3⟩ : ∃ c, c = (c2 && decide (cl < 4)) := ⟨_, rfl⟩
  obtain ⟨c4, h4⟩ : ∃ c, c = (c3 && decide (0 ≤ se)) := ⟨_, rfl⟩
  obtain ⟨c5, h5⟩ : ∃ c, c = (c4 && decide (se ≤ 1073741824)) := ⟨_, rfl⟩
  obtain ⟨g1, e1⟩ : ∃ c, c = (!a || !b) := ⟨_, rfl⟩
  obtain ⟨g2, e2⟩ : ∃ c, c = (g1 || !c5) := ⟨_, rfl⟩
  obtain ⟨g3, e3⟩ : ∃ c, c = (g2 || !keyF key) := ⟨_, rfl⟩
  obtain ⟨g4, e4⟩ : ∃ c, c = (g3 || decide (80 < (bo.length : Int))) := ⟨_, rfl⟩
  have hok : rqOk cl se te key me pa bo = !g4 := by
    unfold rqOk
    rw [hm, hp, e4, e3, e2, e1, h5, h4, h3, h2, h1]
    simp only
    rw [Bool.eq_iff_iff]
    simp only [Bool.and_eq_true, Bool.not_eq_true', decide_eq_true_eq, Bool.or_eq_false_iff, decide_eq_false_iff_not, Bool.not_eq_false']
    cases a <;> cases b <;> cases keyF key <;> simp <;> omega
  unfold M_canon_Request
  refine Tends.bind tm (Tends.bind tp ?_)
  refine Tends.bind (r := ((), (), m, a, p, b, c1, (cl, se, te, key, me, pa, bo, ()), rqZ, ())) (.of fun F => ?_) ?_
  · by_cases h : 0 ≤ te
    · rw [if_pos (decide_eq_true h), h1]
      have : decide (te < 4) = decide (0 ≤ te ∧ te < 4) := by simp [h]
      rw [← this]
      rfl
    · rw [if_neg (by simpa using h), h1]
      have : decide (0 ≤ te ∧ te < 4) = false := decide_eq_false (fun x => h x.1)
      rw [this]
      rfl
  refine Tends.bind (r := ((), (), m, a, p, b, c2, (cl, se, te, key, me, pa, bo, ()), rqZ, ())) (.of fun F => by cases c1 <;> rw [h2] <;> rfl) ?_
  refine Tends.bind (r := ((), (), m, a, p, b, c3, (cl, se, te, key, me, pa, bo, ()), rqZ, ())) (.of fun F => by cases c2 <;> rw [h3] <;> rfl) ?_
  refine Tends.bind (r := ((), (), m, a, p, b, c4, (cl, se, te, key, me, pa, bo, ()), rqZ, ())) (.of fun F => by cases c3 <;> rw [h4] <;> rfl) ?_
  refine Tends.bind (r := ((), (), m, a, p, b, c5, (cl, se, te, key, me, pa, bo, ()), rqZ, ())) (.of fun F => by cases c4 <;> rw [h5] <;> rfl) ?_
  refine Tends.bind (r := ((), (), m, p, c5, g1, (cl, se, te, key, me, pa, bo, ()), rqZ, ())) (.of fun F => by cases a <;> rw [e1] <;> rfl) ?_
  refine Tends.bind (r := ((), (), m, p, g2, (cl, se, te, key, me, pa, bo, ()), rqZ, ())) (.of fun F => by cases g1 <;> rw [e2] <;> rfl) ?_
  refine Tends.bind (r := ((), (), m, p, g3, (cl, se, te, key, me, pa, bo, ()), rqZ, ())) ?_ ?_
  · cases g2
    · rw [e3]
      exact Tends.pos rfl (Tends.bind (key_tends key) (.ret _))
    · rw [e3]
      exact Tends.neg (by simp) (.ret _)
  refine Tends.bind (r := ((), (), m, p, g4, (cl, se, te, key, me, pa, bo, ()), rqZ, ())) (.of fun F => by cases g3 <;> rw [e4] <;> rfl) ?_
  unfold rqF
  rw [hok, hm, hp]
  cases g4
  · exact Tends.neg (by simp) (.ret _)
  · exact Tends.pos rfl (.ret _)
theorem rreq_tends (cl se te : Int) (key me pa bo : List UInt8) : Tends (fun F => M_conciergeref05_Request F (cl, se, te, key, me, pa, bo, ())) (rqF cl se te key me pa bo) := by
  obtain ⟨m, a, hm⟩ : ∃ m a, methF me = (m, a) := ⟨_, _, rfl⟩
  obtain ⟨p, b, hp⟩ : ∃ p b, pathF pa = (p, b) := ⟨_, _, rfl⟩
  have tm := rmeth_tends me
  have tp := rpath_tends5 pa
  rw [hm] at tm
  rw [hp] at tp
  obtain ⟨g1, e1⟩ : ∃ c, c = (!a || !b) := ⟨_, rfl⟩
  obtain ⟨g2, e2⟩ : ∃ c, c = (g1 || !keyF key) := ⟨_, rfl⟩
  obtain ⟨g3, e3⟩ : ∃ c, c = (g2 || decide (80 < (bo.length : Int))) := ⟨_, rfl⟩
  obtain ⟨g4, e4⟩ : ∃ c, c = (g3 || decide (te < 0)) := ⟨_, rfl⟩
  obtain ⟨g5, e5⟩ : ∃ c, c = (g4 || decide (3 < te)) := ⟨_, rfl⟩
  obtain ⟨g6, e6⟩ : ∃ c, c = (g5 || decide (cl < 0)) := ⟨_, rfl⟩
  obtain ⟨g7, e7⟩ : ∃ c, c = (g6 || decide (3 < cl)) := ⟨_, rfl⟩
  obtain ⟨g8, e8⟩ : ∃ c, c = (g7 || decide (se < 0)) := ⟨_, rfl⟩
  obtain ⟨g9, e9⟩ : ∃ c, c = (g8 || decide (1073741824 < se)) := ⟨_, rfl⟩
  have hok : rqOk cl se te key me pa bo = !g9 := by
    unfold rqOk
    rw [hm, hp, e9, e8, e7, e6, e5, e4, e3, e2, e1]
    simp only
    rw [Bool.eq_iff_iff]
    simp only [Bool.and_eq_true, Bool.not_eq_true', decide_eq_true_eq, Bool.or_eq_false_iff, decide_eq_false_iff_not, Bool.not_eq_false']
    cases a <;> cases b <;> cases keyF key <;> simp <;> omega
  unfold M_conciergeref05_Request
  refine Tends.bind tm (Tends.bind tp ?_)
  refine Tends.bind (r := ((), (), m, p, g1, (cl, se, te, key, me, pa, bo, ()), rqZ, ())) (.of fun F => by cases a <;> rw [e1] <;> rfl) ?_
  refine Tends.bind (r := ((), (), m, p, g2, (cl, se, te, key, me, pa, bo, ()), rqZ, ())) ?_ ?_
  · cases g1
    · rw [e2]
      exact Tends.pos rfl (Tends.bind (rkey_tends key) (.ret _))
    · rw [e2]
      exact Tends.neg (by simp) (.ret _)
  refine Tends.bind (r := ((), (), m, p, g3, (cl, se, te, key, me, pa, bo, ()), rqZ, ())) (.of fun F => by cases g2 <;> rw [e3] <;> rfl) ?_
  refine Tends.bind (r := ((), (), m, p, g4, (cl, se, te, key, me, pa, bo, ()), rqZ, ())) (.of fun F => by cases g3 <;> rw [e4] <;> rfl) ?_
  refine Tends.bind (r := ((), (), m, p, g5, (cl, se, te, key, me, pa, bo, ()), rqZ, ())) (.of fun F => by cases g4 <;> rw [e5] <;> rfl) ?_
  refine Tends.bind (r := ((), (), m, p, g6, (cl, se, te, key, me, pa, bo, ()), rqZ, ())) (.of fun F => by cases g5 <;> rw [e6] <;> rfl) ?_
  refine Tends.bind (r := ((), (), m, p, g7, (cl, se, te, key, me, pa, bo, ()), rqZ, ())) (.of fun F => by cases g6 <;> rw [e7] <;> rfl) ?_
  refine Tends.bind (r := ((), (), m, p, g8, (cl, se, te, key, me, pa, bo, ()), rqZ, ())) (.of fun F => by cases g7 <;> rw [e8] <;> rfl) ?_
  refine Tends.bind (r := ((), (), m, p, g9, (cl, se, te, key, me, pa, bo, ()), rqZ, ())) (.of fun F => by cases g8 <;> rw [e9] <;> rfl) ?_
  unfold rqF
  rw [hok, hm, hp]
  cases g9
  · exact Tends.neg (by simp) (.ret _)
  · exact Tends.pos rfl (.ret _)

/-- REQUESTS. -/
theorem pure_conciergelaw05_CanonRequests (x : Rq) : ∃ F, M_conciergelaw05_CanonRequests F x = some true := by
  obtain ⟨cl, se, te, key, me, pa, bo, ⟨⟩⟩ := x
  refine Tends.ex ?_
  unfold M_conciergelaw05_CanonRequests
  refine Tends.bind awake5 (Tends.neg (by simp) ?_)
  obtain ⟨g1, e1⟩ : ∃ c, c = decide (100 < (key.length : Int)) := ⟨_, rfl⟩
  obtain ⟨g2, e2⟩ : ∃ c, c = (g1 || decide (100 < (me.length : Int))) := ⟨_, rfl⟩
  obtain ⟨g3, e3⟩ : ∃ c, c = (g2 || decide (100 < (pa.length : Int))) := ⟨_, rfl⟩
  obtain ⟨g4, e4⟩ : ∃ c, c = (g3 || decide (100 < (bo.length : Int))) := ⟨_, rfl⟩
  refine Tends.bind (r := ((), g2, (cl, se, te, key, me, pa, bo, ()), ())) (.of fun F => by simp only [← e1]; cases g1 <;> rw [e2] <;> rfl) ?_
  refine Tends.bind (r := ((), g3, (cl, se, te, key, me, pa, bo, ()), ())) (.of fun F => by cases g2 <;> rw [e3] <;> rfl) ?_
  refine Tends.bind (r := ((), g4, (cl, se, te, key, me, pa, bo, ()), ())) (.of fun F => by cases g3 <;> rw [e4] <;> rfl) ?_
  cases g4
  · refine Tends.neg (by simp) (Tends.bind (req_tends cl se te key me pa bo) (Tends.bind (rreq_tends cl se te key me pa bo) ?_))
    by_cases hok : rqOk cl se te key me pa bo = true
    · have er : rqF cl se te key me pa bo = ((cl, se, te, key, (methF me).1, (pathF pa).1, bo, ()), true) := by unfold rqF; rw [if_pos hok]
      have hag : rqF cl se te key (methF me).1 (pathF pa).1 bo = ((cl, se, te, key, (methF me).1, (pathF pa).1, bo, ()), true) := by
        unfold rqOk at hok
        simp only [Bool.and_eq_true] at hok
        obtain ⟨⟨⟨⟨k1, k2⟩, k3⟩, k4⟩, k5⟩ := hok
        unfold rqF rqOk
        rw [methF_again me k1, pathF_again pa k2, k3, k4, k5]
        simp
      rw [er]
      refine Tends.bind (req_tends cl se te key (methF me).1 (pathF pa).1 bo) ?_
      rw [hag]
      refine Tends.of fun F => ?_
      simp
    · have er : rqF cl se te key me pa bo = (rqZ, false) := by unfold rqF; rw [if_neg hok]
      rw [er]
      refine Tends.bind (req_tends 0 0 0 [] [] [] []) ?_
      refine Tends.of fun F => ?_
      simp [rqZ]
  · exact Tends.pos rfl (.ret _)

end Go.Vm
