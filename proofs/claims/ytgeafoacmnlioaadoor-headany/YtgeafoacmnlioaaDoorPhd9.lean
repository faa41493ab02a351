/- Heads: the document's names, and any text. No condition. -/
import Derived.Test.YtgeafoacmnlioaaDoorPhd8
import Derived.Test.YtgeafoacmnlioaaDoorPhd2
namespace Go.Vm
open Go Go.Proofs Go.Lib
set_option linter.unusedVariables false
set_option linter.unusedSimpArgs false
/-! ### the order of texts -/
theorem bl_irr : ∀ a : HB, Op.bytesLess a a = false
  | [] => rfl
  | c :: a => by
    show (decide (c < c) || (c == c && Op.bytesLess a a)) = false
    rw [bl_irr a]
    simp
theorem bl_cons (c d : UInt8) (a b : HB) : Op.bytesLess (c :: a) (d :: b) = true ↔ c < d ∨ (c = d ∧ Op.bytesLess a b = true) := by
  show (decide (c < d) || (c == d && Op.bytesLess a b)) = true ↔ _
  simp
theorem bl_lt : ∀ a b : HB, Op.bytesLess a b = true ↔ a < b
  | [], [] => by
    constructor
    · intro h; cases h
    · intro h; exact absurd h (by simp)
  | [], d :: b => by
    constructor
    · intro _; simp
    · intro _; rfl
  | c :: a, [] => by
    constructor
    · intro h; cases h
    · intro h; exact absurd h (by simp)
  | c :: a, d :: b => by
    rw [bl_cons, List.cons_lt_cons_iff, bl_lt a b]
theorem bl_trn : ∀ a b c : HB, Op.bytesLess a b = true → Op.bytesLess b c = true → Op.bytesLess a c = true
  | [], [], c, h, _ => by cases h
  | [], _ :: _, [], _, h => by cases h
  | [], _ :: _, _ :: _, _, _ => rfl
  | _ :: _, [], _, h, _ => by cases h
  | _ :: _, _ :: _, [], _, h => by cases h
  | x :: a, y :: b, z :: c, h, h' => by
    rw [bl_cons] at h h' ⊢
    rcases h with h | ⟨rfl, h⟩
    · rcases h' with h' | ⟨rfl, h'⟩
      · left
        rw [UInt8.lt_iff_toNat_lt] at h h' ⊢
        omega
      · exact .inl h
    · rcases h' with h' | ⟨rfl, h'⟩
      · exact .inl h'
      · exact .inr ⟨rfl, bl_trn a b c h h'⟩
theorem bl_tot : ∀ a b : HB, Op.bytesLess a b = false → Op.bytesLess b a = false → a = b
  | [], [], _, _ => rfl
  | [], _ :: _, h, _ => by cases h
  | _ :: _, [], _, h => by cases h
  | x :: a, y :: b, h, h' => by
    rw [Bool.eq_false_iff, Ne, bl_cons] at h h'
    have hxy : x = y := by
      rcases Nat.lt_trichotomy x.toNat y.toNat with h1 | h1 | h1
      · exact absurd (.inl (UInt8.lt_iff_toNat_lt.2 h1)) h
      · exact UInt8.toNat_inj.1 h1
      · exact absurd (.inl (UInt8.lt_iff_toNat_lt.2 h1)) h'
    subst hxy
    have := bl_tot a b (by rw [Bool.eq_false_iff]; exact fun e => h (.inr ⟨rfl, e⟩)) (by rw [Bool.eq_false_iff]; exact fun e => h' (.inr ⟨rfl, e⟩))
    rw [this]
theorem bl_ord : OrdK Op.bytesLess := ⟨bl_irr, bl_trn, bl_tot⟩
theorem le_bl (a b : HB) : decide (a ≤ b) = true ↔ Op.bytesLess b a = false := by
  rw [decide_eq_true_eq, ← List.not_lt, ← bl_lt, Bool.not_eq_true]
theorem sortB_le (l : List HB) : leS (fun x : HB => x) Op.bytesLess (sortB l) := by
  have h : List.Pairwise (fun a b : HB => decide (a ≤ b) = true) (sortB l) := List.pairwise_mergeSort
    (fun a b c h1 h2 => by
      rw [le_bl] at h1 h2 ⊢
      rw [Bool.eq_false_iff]
      intro h3
      cases hab : Op.bytesLess a b with
      | true => 
        have := bl_trn c a b h3 hab
        rw [this] at h2; cases h2
      | false =>
        have := bl_tot a b hab h1
        subst this
        rw [h3] at h2; cases h2)
    (fun a b => by
      rw [Bool.or_eq_true, le_bl, le_bl]
      cases hab : Op.bytesLess b a with
      | false => exact .inl rfl
      | true =>
        right
        rw [Bool.eq_false_iff]
        intro h
        have := bl_trn b a b hab h
        rw [bl_irr] at this
        cases this) l
  have conv : ∀ r : List HB, List.Pairwise (fun a b : HB => decide (a ≤ b) = true) r → leS (fun x : HB => x) Op.bytesLess r := by
    intro r hr
    induction hr with
    | nil => exact trivial
    | cons h _ ih => exact ⟨fun y hy => (le_bl _ _).1 (h y hy), ih⟩
  exact conv _ h
theorem sortB_put (l : List HB) : sortB l = putAll Op.bytesLess [] l := sort_put bl_ord l (sortB l) (sortB_le l) (List.mergeSort_perm l _)
/-! ### the document's names -/
def posB (x : HB) : List HB → Nat
  | [] => 0
  | y :: l => if Op.bytesLess y x = true then posB x l + 1 else 0
theorem posB_le (x : HB) : ∀ l : List HB, posB x l ≤ l.length
  | [] => Nat.le_refl _
  | y :: l => by
    have := posB_le x l
    unfold posB
    split
    · simp only [List.length_cons]; omega
    · exact Nat.zero_le _
theorem put_pos (x : HB) : ∀ l : List HB, putS (fun x : HB => x) Op.bytesLess x l = l.take (posB x l) ++ [x] ++ l.drop (posB x l)
  | [] => rfl
  | y :: l => by
    have ih := put_pos x l
    unfold putS posB
    by_cases h : Op.bytesLess y x = true
    · rw [if_pos h, if_pos h, ih]
      simp
    · rw [if_neg h, if_neg h]
      simp
theorem rpos_loop (i : Nat) (out : List HB) (m p b : HB) (fs : List HdF) (hi : i < fs.length) (ho : out.length ≤ 1000000) : ∀ (n k : Nat), k + n = out.length →
    TendsL M_conciergeref38_Names_l0 ((), (), (i : Int), (k : Int), out, (m, p, b, fs, ()), ()) ((), (), (i : Int), ((k + posB fs[i].1 (out.drop k) : Nat) : Int), out, (m, p, b, fs, ()), ())
  | 0, k, h => by
    refine TendsL.fin (.of fun F => ?_)
    unfold M_conciergeref38_Names_l0
    rw [List.drop_of_length_le (by omega), if_neg (by rw [decide_eq_true_eq]; simp only; omega)]
    rfl
  | n + 1, k, h => by
    have hk : k < out.length := by omega
    have hd : out.drop k = out[k] :: out.drop (k + 1) := List.drop_eq_getElem_cons hk
    have hst : ∀ F, M_conciergeref38_Names_l0 F ((), (), (i : Int), (k : Int), out, (m, p, b, fs, ()), ()) = if Op.bytesLess out[k] fs[i].1 = true then some (.inl ((), (), (i : Int), ((k + 1 : Nat) : Int), out, (m, p, b, fs, ()), ())) else some (.inr ((), (), (i : Int), (k : Int), out, (m, p, b, fs, ()), ())) := by
      intro F
      unfold M_conciergeref38_Names_l0
      rw [if_pos (by simpa using hk)]
      simp only [idxN out k (k : Int) rfl hk, idxN fs i (i : Int) rfl hi, Option.bind_some, next_nat k (by omega)]
    rw [hd]
    by_cases hb : Op.bytesLess out[k] fs[i].1 = true
    · have ih := rpos_loop i out m p b fs hi ho n (k + 1) (by omega)
      refine TendsL.step (.of fun F => by rw [hst, if_pos hb]) ?_
      unfold posB
      rw [if_pos hb]
      have e : k + (posB fs[i].1 (out.drop (k + 1)) + 1) = k + 1 + posB fs[i].1 (out.drop (k + 1)) := by omega
      rw [e]
      exact ih
    · unfold posB
      rw [if_neg hb]
      exact TendsL.fin (.of fun F => by rw [hst, if_neg hb]; rfl)
theorem rnames_loop (m p b : HB) (fs : List HdF) (hf : fs.length ≤ 100000) : ∀ (n i : Nat) (out : List HB), i + n = fs.length → out.length = i →
    TendsL M_conciergeref38_Names_l1 ((), (), (i : Int), out, (m, p, b, fs, ()), ()) ((), putAll Op.bytesLess out ((fs.drop i).map (·.1)), ())
  | 0, i, out, h, ho => by
    refine TendsL.fin (.of fun F => ?_)
    unfold M_conciergeref38_Names_l1
    rw [List.drop_of_length_le (by omega), if_neg (by rw [decide_eq_true_eq]; simp only; omega)]
    rfl
  | n + 1, i, out, h, ho => by
    have hi : i < fs.length := by omega
    have hd : fs.drop i = fs[i] :: fs.drop (i + 1) := List.drop_eq_getElem_cons hi
    have hp := rpos_loop i out m p b fs hi (by omega) out.length 0 (by omega)
    rw [Nat.zero_add, List.drop_zero] at hp
    have hple := posB_le fs[i].1 out
    have hpl : (putS (fun x : HB => x) Op.bytesLess fs[i].1 out).length = i + 1 := by rw [put_pos]; simp; omega
    have ih := rnames_loop m p b fs hf n (i + 1) (putS (fun x : HB => x) Op.bytesLess fs[i].1 out) (by omega) hpl
    rw [hd, List.map_cons]
    show TendsL _ _ ((), putAll Op.bytesLess (putS (fun x : HB => x) Op.bytesLess fs[i].1 out) ((fs.drop (i + 1)).map (·.1)), ())
    refine TendsL.step ?_ ih
    unfold M_conciergeref38_Names_l1
    refine Tends.pos (by rw [decide_eq_true_eq]; simp only; omega) (Tends.bind hp.run ?_)
    have hc : (decide (0 ≤ ((posB fs[i].1 out : Nat) : Int)) && decide (((posB fs[i].1 out : Nat) : Int) ≤ (out.length : Int))) = true := by
      rw [Bool.and_eq_true, decide_eq_true_eq, decide_eq_true_eq]; omega
    refine Tends.pos hc (Tends.pos (by rw [decide_eq_true_eq]; simp; omega) (Tends.pos hc (Tends.bind (.of fun F => idxN fs i (i : Int) rfl hi) ?_)))
    refine Tends.pos (by rw [decide_eq_true_eq]; simp; omega) (Tends.pos (by rw [decide_eq_true_eq]; simp; omega) (.of fun F => ?_))
    simp only [Int.toNat_natCast, next_nat i (by omega), put_pos]
theorem rnames_t (m p b : HB) (fs : List HdF) (hf : fs.length ≤ 100000) : Tends (fun F => M_conciergeref38_Names F (m, p, b, fs, ())) (sortB (fs.map (·.1))) := by
  have h := rnames_loop m p b fs hf fs.length 0 [] (by omega) rfl
  rw [List.drop_zero, ← sortB_put] at h
  unfold M_conciergeref38_Names
  exact Tends.bind h.run (.ret _)
/-! ### any text -/
theorem read_err {s : HB} (h : (readP vokH s).2 ≠ 0) : (readP vokH s).1 = ([], [], [], []) := by
  unfold readP at h ⊢
  by_cases h6 : 600 < s.length
  · rw [if_pos h6]
  rw [if_neg h6] at h ⊢
  cases hq : lineP s with
  | none => rfl
  | some y =>
    obtain ⟨x, r⟩ := y
    rw [hq] at h
    simp only at h ⊢
    cases hc : firstP x with
    | none => rfl
    | some z =>
      obtain ⟨m, p⟩ := z
      rw [hc] at h
      simp only at h ⊢
      by_cases h0 : (fieldsP vokH (r.length + 1) r []).2 = 0
      · rw [if_pos h0] at h
        exact absurd rfl h
      · rw [if_neg h0]
theorem anames_loop (l : List HB) (hl : l.length ≤ 1000000) : ∀ (n i : Nat), i + n = l.length → TendsL M_conciergelaw38_HeadAny_l0 (l, l, (l.length : Int), (i : Int), ()) (.inl ())
  | 0, i, h => by
    refine TendsL.fin (.of fun F => ?_)
    unfold M_conciergelaw38_HeadAny_l0
    rw [if_neg (by rw [decide_eq_true_eq]; simp only; omega)]
  | n + 1, i, h => by
    have hi : i < l.length := by omega
    have hw : IntKind.i64.wrap ((i : Int) + 1) = ((i + 1 : Nat) : Int) := next_nat i (by omega)
    refine TendsL.step (.of fun F => ?_) (anames_loop l hl n (i + 1) (by omega))
    unfold M_conciergelaw38_HeadAny_l0
    rw [if_pos (by rw [decide_eq_true_eq]; simp only; omega)]
    simp only [idxN l i (i : Int) rfl hi, Option.bind_some, decide_true, Bool.not_true, Bool.false_eq_true, if_false, hw]
theorem headAny_t (s name : HB) : Tends (fun F => M_conciergelaw38_HeadAny F (s, name)) true := by
  unfold M_conciergelaw38_HeadAny
  refine Tends.bind awake_t (Tends.neg (by simp) ?_)
  refine Tends.bind (Tends.orB (c := decide (700 < (s.length : Int))) (d := decide (30 < (name.length : Int))) (f := fun q => (s, name, q, ())) (.ret _)) ?_
  by_cases hb : (decide (700 < (s.length : Int)) || decide (30 < (name.length : Int))) = true
  · exact Tends.pos hb (.ret _)
  refine Tends.neg hb ?_
  simp only [Bool.or_eq_true, decide_eq_true_eq, not_or] at hb
  have h1 := parse_t s (by omega)
  have h2 := rparse_t s (by omega)
  have h3 := rread_t s (by omega)
  have h4 := field_t s name (by omega) (by omega)
  have h5 := rfold_t name (by omega)
  have h8 := names_t s (by omega)
  have hfl : (readP vokH s).1.2.2.2.length ≤ 601 := by
    by_cases he : (readP vokH s).2 = 0
    · exact read_len he
    · rw [read_err he]; exact Nat.zero_le _
  have h6 := rget_t (foldB name) (readP vokH s).1.1 (readP vokH s).1.2.1 (readP vokH s).1.2.2.1 (readP vokH s).1.2.2.2 (by omega)
  have h9 := rnames_t (readP vokH s).1.1 (readP vokH s).1.2.1 (readP vokH s).1.2.2.1 (readP vokH s).1.2.2.2 (by omega)
  have e4 : fieldP s name = getP (foldB name) (readP vokH s).1.2.2.2 := by
    unfold fieldP
    by_cases he : (readP vokH s).2 = 0
    · rw [if_pos he]
    · rw [if_neg he, read_err he]; rfl
  have e8 : namesP s = sortB ((readP vokH s).1.2.2.2.map (·.1)) := by
    unfold namesP
    by_cases he : (readP vokH s).2 = 0
    · rw [if_pos he]
    · rw [if_neg he, read_err he]; simp [sortB]
  rw [e4] at h4
  rw [e8] at h8
  have hnl : (sortB ((readP vokH s).1.2.2.2.map (·.1))).length ≤ 601 := by
    simp only [sortB, List.length_mergeSort, List.length_map]
    omega
  generalize sortB ((readP vokH s).1.2.2.2.map (·.1)) = N at h8 h9 hnl
  generalize getP (foldB name) (readP vokH s).1.2.2.2 = G at h4 h6
  generalize parseH vokH s = R at h1 h2
  generalize readP vokH s = Q at h3 h6 h9
  refine Tends.bind h1 (Tends.bind h2 (Tends.bind h3 (Tends.bind h4 ?_)))
  refine Tends.bind (Tends.bind h5 (Tends.bind h6 (.ret _))) (Tends.bind h8 (Tends.bind h9 ?_))
  refine Tends.bind (r := (G.1, G.2, G.1, G.2, N, N, false, ())) (Tends.pos (by simp) (.of fun F => by simp)) ?_
  refine Tends.bind (r := (G.2, G.2, N, N, false, ())) (Tends.pos rfl (.of fun F => by simp)) ?_
  refine Tends.bind (r := (N, N, false, ())) (Tends.pos rfl (.of fun F => by cases G.2 <;> rfl)) ?_
  refine Tends.bind (r := (N, N, false, ())) (Tends.pos rfl (.of fun F => by simp)) (Tends.neg (by simp) ?_)
  exact Tends.bind (anames_loop N (by omega) N.length 0 (by omega)).run (.of fun F => rfl)
theorem pure_conciergelaw38_HeadAny (s name : HB) : ∃ F, M_conciergelaw38_HeadAny F (s, name) = some true := (headAny_t s name).ex
end Go.Vm
