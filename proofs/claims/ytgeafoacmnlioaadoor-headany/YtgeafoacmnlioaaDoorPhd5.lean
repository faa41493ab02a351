/- Heads: the program prints; names, fields. No condition. -/
import Derived.Test.YtgeafoacmnlioaaDoorPhd4
namespace Go.Vm
open Go Go.Proofs Go.Lib
set_option linter.unusedVariables false
set_option linter.unusedSimpArgs false
def fieldP (s n : HB) : HB × Bool := if (readP vokH s).2 = 0 then getP (foldB n) (readP vokH s).1.2.2.2 else ([], false)
theorem field_t (s n : HB) (hs : s.length ≤ 10000) (hn : n.length ≤ 10000) : Tends (fun F => M_head_Field F (s, n)) (fieldP s n) := by
  unfold M_head_Field fieldP
  refine Tends.bind (read_t s hs) ?_
  by_cases he : (readP vokH s).2 = 0
  case neg =>
    rw [if_neg he]
    have := readQ_err s
    exact Tends.pos (by rw [this]; simpa using he) (.ret _)
  have hfl := read_len he
  have hq : readQ s = ((true, (readP vokH s).1.1, (readP vokH s).1.2.1, (readP vokH s).1.2.2.1, (readP vokH s).1.2.2.2, ()), 0) := by unfold readQ; rw [if_pos he]
  rw [if_pos he, hq]
  exact Tends.neg (by simp) (Tends.bind (fold_t n (by omega)) (Tends.bind (geto_t _ _ _ _ _ (by omega)) (.ret _)))
theorem names_loop (fs : List HdF) (hf : fs.length ≤ 1000000) : ∀ (j k : Nat) (out : List HB), k + j = fs.length → out.length = k → TendsL M_head_Names_l0 ((), fs, (fs.length : Int), (k : Int), out, ()) ((), out ++ (fs.drop k).map (·.1), ())
  | 0, k, out, hk, ho => by
    refine TendsL.fin (.of fun F => ?_)
    unfold M_head_Names_l0
    rw [List.drop_of_length_le (by omega), if_neg (by simp; omega)]
    simp
  | j + 1, k, out, hk, ho => by
    have hlt : k < fs.length := by omega
    have hd : fs.drop k = fs[k] :: fs.drop (k + 1) := by simp
    have ih := names_loop fs hf j (k + 1) (out ++ [fs[k].1]) (by omega) (by simp; omega)
    refine TendsL.step (x' := ((), fs, (fs.length : Int), ((k + 1 : Nat) : Int), out ++ [fs[k].1], ())) (.of fun F => ?_) ?_
    · unfold M_head_Names_l0
      rw [if_pos (by simpa using hlt)]
      simp only [idxN fs k (k : Int) rfl hlt, Option.bind_some, next_nat k (by omega)]
      rw [if_pos (by simp; omega)]
    · rw [hd, List.map_cons]
      rw [show out ++ fs[k].1 :: (fs.drop (k + 1)).map (·.1) = (out ++ [fs[k].1]) ++ (fs.drop (k + 1)).map (·.1) by simp]
      exact ih
def namesP (s : HB) : List HB := if (readP vokH s).2 = 0 then sortB ((readP vokH s).1.2.2.2.map (·.1)) else []
theorem names_t (s : HB) (hs : s.length ≤ 10000) : Tends (fun F => M_head_Names F s) (namesP s) := by
  unfold M_head_Names namesP
  refine Tends.bind (read_t s hs) ?_
  by_cases he : (readP vokH s).2 = 0
  case neg =>
    rw [if_neg he]
    have := readQ_err s
    exact Tends.pos (by rw [this]; simpa using he) (.ret _)
  have hfl := read_len he
  have hq : readQ s = ((true, (readP vokH s).1.1, (readP vokH s).1.2.1, (readP vokH s).1.2.2.1, (readP vokH s).1.2.2.2, ()), 0) := by unfold readQ; rw [if_pos he]
  rw [if_pos he, hq]
  have h := names_loop (readP vokH s).1.2.2.2 (by omega) (readP vokH s).1.2.2.2.length 0 [] (by omega) rfl
  rw [List.drop_zero, List.nil_append] at h
  refine Tends.neg (by simp) (Tends.pos rfl (Tends.bind h.run ?_))
  have hs : ∀ F, M_slices_Sort_string_string F ((readP vokH s).1.2.2.2.map (·.1), ()) = some ((), sortB ((readP vokH s).1.2.2.2.map (·.1)), ()) := by
    intro F
    unfold M_slices_Sort_string_string MSortB
    exact if_pos (by rw [decide_eq_true_eq]; simp; omega)
  exact .of fun F => by simp only [hs, Option.bind_some]
/-! ### a request's text -/
end Go.Vm
