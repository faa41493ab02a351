/- Heads: the program prints; names, fields. No condition. -/
import Derived.Test.YtgeafoacmnlioaaDoorPhd4
namespace Go.Vm
open Go Go.Proofs Go.Lib
set_option linter.unusedVariables false
set_option linter.unusedSimpArgs false
def fieldP (s n : HB) : HB × Bool := if (readP vokH s).2 = 0 then getP (foldB n) (readP vokH s).1.2.2.2 else ([], false)
theorem field_t (s n : HB) (hs : s.length ≤ 10000) (hn : n.length ≤ 10000) : Tends (fun F => M_head_Field F (s, n)) (fieldP s n) := by
  unfold M_head_Field fieldP
  refine Tends.bind (read_t s hs) ?_
  by_cases he : (readP vokH s).2 = 0
  case neg =>
    rw [if_neg he]
    have := readQ_err s
    exact Tends.pos (by rw [this]; simpa using he) (.ret _)
  have hfl := read_len he
  have hq : readQ s = ((true, (readP vokH s).1.1, (readP vokH s).1.2.1, (readP vokH s).1.2.2.1, (readP vokH s).1.2.2.2, ()), 0) := by unfold readQ; rw [if_pos he]
  rw [if_pos he, hq]
  exact Tends.neg (by simp) (Tends.bind (fold_t n (by omega)) (Tends.bind (geto_t _ _ _ _ _ (by omega)) (.ret _)))
theorem names_loop (fs : List HdF) (hf : fs.length ≤ 1000000) : ∀ (j k : Nat) (out : List HB), k + j = fs.length → out.length = k → TendsL M_head_Names_l0 ((), fs, (fs.length : Int), (k : Int), out, ()) ((), out ++ (fs.drop k).map (·.1), ())
  | 0, k, out, hk, ho => by
    refine TendsL.fin (.of fun F => ?_)
    unfold M_head_Names_l0
    rw [List.drop_of_length_le (by omega), if_neg (by simp; omega)]
    simp
  | j + 1, k, out, hk, ho => by
    have hlt : k < fs.length := by omega
    have hd : fs.drop k = fs[k] :: fs.drop (k + 1) := by simp
    have ih := names_loop fs hf j (k + 1) (out ++ [fs[k].1]) (by omega) (by simp; omega)
    refine TendsL.step (x' := ((), fs, (fs.length : Int), ((k + 1 : Nat) : Int), out ++ [fs[k].1], ())) (.of fun F => ?_) ?_
    · unfold M_head_Names_l0
      rw [if_pos (by simpa using hlt)]
      simp only [idxN fs k (k : Int) rfl hlt, Option.bind_some, next_nat k (by omega)]
      rw [if_pos (by simp; omega)]
    · rw [hd, List.map_cons]
      rw [show out ++ fs[k].1 :: (fs.drop (k + 1)).map (·.1) = (out ++ [fs[k].1]) ++ (fs.drop (k + 1)).map (·.1) by simp]
      exact ih
def namesP (s : HB) : List HB := if (readP vokH s).2 = 0 then sortB ((readP vokH s).1.2.2.2.map (·.1)) else []
theorem names_t (s : HB) (hs : s.length ≤ 10000) : Tends (fun F => M_head_Names F s) (namesP s) := by
  unfold M_head_Names namesP
  refine Tends.bind (read_t s hs) ?_
  by_cases he : (readP vokH s).2 = 0
  case neg =>
    rw [if_neg he]
    have := readQ_err s
    exact Tends.pos (by rw [this]; simpa using he) (.ret _)
  have hfl := read_len he
  have hq : readQ s = ((true, (readP vokH s).1.1, (readP vokH s).1.2.1, (readP vokH s).1.2.2.1, (readP vokH s).1.2.2.2, ()), 0) := by unfold readQ; rw [if_pos he]
  rw [if_pos he, hq]
  have h := names_loop (readP vokH s).1.2.2.2 (by omega) (readP vokH s).1.2.2.2.length 0 [] (by omega) rfl
  rw [List.drop_zero, List.nil_append] at h
  refine Tends.neg (by simp) (Tends.pos rfl (Tends.bind h.run ?_))
  have hs : ∀ F, M_slices_Sort_string_string F ((readP vokH s).1.2.2.2.map (·.1), ()) = some ((), sortB ((readP vokH s).1.2.2.2.map (·.1)), ()) := by
    intro F
    unfold M_slices_Sort_string_string MSortB
    exact if_pos (by rw [decide_eq_true_eq]; simp; omega)
  exact .of fun F => by simp only [hs, Option.bind_some]
/-! ### a request's text -/
def digH (t : Int) : UInt8 := UInt8.ofNat (IntKind.u8.wrap (IntKind.i64.wrap (48 + t))).toNat
def txtH (r : HdR) : HB := textH (digH r.2.2.1) r.2.2.2.1 r.2.2.2.2.1 r.2.2.2.2.2.1 r.2.2.2.2.2.2.1
def sameH (x y : HdR) : Bool := decide (x.1 = y.1) && (decide (x.2.1 = y.2.1) && (decide (x.2.2.1 = y.2.2.1) && (decide (x.2.2.2.1 = y.2.2.2.1) && (decide (x.2.2.2.2.1 = y.2.2.2.2.1) && (decide (x.2.2.2.2.2.1 = y.2.2.2.2.2.1) && (decide (x.2.2.2.2.2.2.1 = y.2.2.2.2.2.2.1) && true))))))
def printP (r : HdR) : HB × Int := if r.2.2.1 < 0 ∨ 4 ≤ r.2.2.1 then ([], 1) else if (decide ((parseH vokH (txtH r)).2 = 0) && sameH (parseH vokH (txtH r)).1 r) = true then (txtH r, 0) else ([], 1)
theorem sameH_iff (x y : HdR) : sameH x y = true ↔ x = y := by
  unfold sameH
  simp only [Bool.and_eq_true, decide_eq_true_eq, and_true]
  constructor
  · rintro ⟨h1, h2, h3, h4, h5, h6, h7⟩
    exact Prod.ext h1 (Prod.ext h2 (Prod.ext h3 (Prod.ext h4 (Prod.ext h5 (Prod.ext h6 (Prod.ext h7 rfl))))))
  · rintro rfl; exact ⟨rfl, rfl, rfl, rfl, rfl, rfl, rfl⟩
theorem txtH_len (r : HdR) (n : Nat) (h4 : r.2.2.2.1.length ≤ n) (h5 : r.2.2.2.2.1.length ≤ n) (h6 : r.2.2.2.2.2.1.length ≤ n) (h7 : r.2.2.2.2.2.2.1.length ≤ n) : (txtH r).length ≤ 4 * n + 50 := by
  unfold txtH textH
  simp
  omega
theorem print_t (r : HdR) (h4 : r.2.2.2.1.length ≤ 400) (h5 : r.2.2.2.2.1.length ≤ 400) (h6 : r.2.2.2.2.2.1.length ≤ 400) (h7 : r.2.2.2.2.2.2.1.length ≤ 400) : Tends (fun F => M_head_Print F r) (printP r) := by
  have hl := txtH_len r 400 h4 h5 h6 h7
  unfold M_head_Print printP
  by_cases hb : r.2.2.1 < 0 ∨ 4 ≤ r.2.2.1
  · rw [if_pos hb]
    refine Tends.bind (r := ((), true, r, ())) ?_ (Tends.pos rfl (.ret _))
    rcases hb with hb | hb
    · exact Tends.neg (by simp [hb]) (.ret _)
    · exact Tends.pos (by simp; omega) (.of fun F => by simp [hb])
  rw [if_neg hb]
  refine Tends.bind (r := ((), false, r, ())) (Tends.pos (by simp; omega) (.of fun F => by simp; omega)) (Tends.neg (by simp) ?_)
  refine Tends.bind (r := ((), [r.2.2.2.2.1 ++ [32] ++ r.2.2.2.2.2.1, [105, 100, 101, 109, 112, 111, 116, 101, 110, 99, 121, 45, 107, 101, 121, 58, 32] ++ r.2.2.2.1, [116, 101, 110, 97, 110, 116, 58, 32] ++ [digH r.2.2.1], [], r.2.2.2.2.2.2.1], r, ())) ?_ ?_
  · exact Tends.pos (by simp; omega) (Tends.pos (by simp; omega) (Tends.pos (by simp; omega) (.ret _)))
  have hj : Go.Lib.join [r.2.2.2.2.1 ++ [32] ++ r.2.2.2.2.2.1, [105, 100, 101, 109, 112, 111, 116, 101, 110, 99, 121, 45, 107, 101, 121, 58, 32] ++ r.2.2.2.1, [116, 101, 110, 97, 110, 116, 58, 32] ++ [digH r.2.2.1], [], r.2.2.2.2.2.2.1] [10] = txtH r := by
    unfold Go.Lib.join txtH textH
    simp [List.intercalate, List.intersperse]
  refine Tends.bind (m := fun F => M_strings_Join F ([r.2.2.2.2.1 ++ [32] ++ r.2.2.2.2.2.1, [105, 100, 101, 109, 112, 111, 116, 101, 110, 99, 121, 45, 107, 101, 121, 58, 32] ++ r.2.2.2.1, [116, 101, 110, 97, 110, 116, 58, 32] ++ [digH r.2.2.1], [], r.2.2.2.2.2.2.1], [10])) (r := txtH r) (.of fun F => ?_) ?_
  · unfold M_strings_Join MJoin
    simp only [hj]
    rw [if_pos (by rw [decide_eq_true_eq]; show (5 : Nat) ≤ 140737488355328; omega), if_pos (by rw [decide_eq_true_eq]; omega)]
  refine Tends.bind (parse_t (txtH r) (by omega)) ?_
  generalize parseH vokH (txtH r) = q
  obtain ⟨x, e⟩ := q
  refine Tends.bind (r := (txtH r, !decide (e = 0) || !sameH x r, ())) (Tends.orB (c := !decide (e = 0)) (d := !sameH x r) (f := fun b => (txtH r, b, ())) (.ret _)) ?_
  simp only
  cases decide (e = 0) <;> cases sameH x r
  · exact Tends.pos rfl (.ret _)
  · exact Tends.pos rfl (.ret _)
  · exact Tends.pos rfl (.ret _)
  · exact Tends.neg (by simp) (.ret _)
end Go.Vm
