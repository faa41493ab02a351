/- Two unlike texts that come to one root: the law, plainly. -/
import Derived.Test.YtblbmkhlnaaopaaPp5

namespace Go.Vm
open Go Go.Proofs
set_option linter.unusedVariables false

theorem chkI_in {root : List UInt8} {N I : Nat} {t : List UInt8} {p : List (List UInt8)} (h1 : 1 ≤ N) (h2 : N ≤ 1048576) (h3 : I < N) : chkI root (N : Int) (I : Int) t p = checkD root N I t p := by
  unfold chkI
  rw [if_pos (by omega)]
  rfl
theorem upD_way {n i : Nat} {path : List (List UInt8)} {d x : List UInt8} (h : upD n i path d = some x) : path.length = (turnsD n i).length ∧ up (turnsD n i).reverse path d = some x := by
  unfold upD at h
  split at h
  · rename_i hl
    exact ⟨hl, h⟩
  · cases h
theorem topsD_sp (n : Nat) (hn : n ≤ 1048576) (ws : List Bool) (t : List UInt8) (ht : t.length ≤ 10000) (p : List (List UInt8)) (hp : Sp p) (x : List UInt8) (hx : x.length = 32) : ∀ z ∈ topsD n ws t p x, z.length ≤ 100000 := by
  intro z hz
  unfold topsD at hz
  simp only [List.mem_append, List.mem_cons, List.not_mem_nil, or_false] at hz
  have hnl := numL_len n (by omega)
  rcases hz with (rfl | hz) | rfl
  · simp; omega
  · exact topsL_sp ws p _ hp (by unfold leafD; rw [dig_len]; omega) z hz
  · simp; omega

/-- BINDS. -/
theorem pure_conciergelaw41_ProofBinds (n0 n1 : Int) (a b : List (List UInt8)) : ∃ F, M_conciergelaw41_ProofBinds F ([n0, n1], a, b) = some true := by
  refine Tends.ex ?_
  unfold M_conciergelaw41_ProofBinds
  refine Tends.bind awake_tends (Tends.neg (by simp) ?_)
  cases hsa : smallB a 21
  · refine Tends.bind (r := (a, b, (), true, [n0, n1], ())) (Tends.bind (small_tends a 21 (by omega)) (Tends.neg (by simp [hsa]) (.ret _))) (Tends.pos rfl (.ret _))
  cases hsb : smallB b 21
  · refine Tends.bind (r := (a, b, (), true, [n0, n1], ())) (Tends.bind (small_tends a 21 (by omega)) (Tends.pos (by simp [hsa]) (Tends.bind (small_tends b 21 (by omega)) (Tends.neg (by simp [hsb]) (.ret _))))) (Tends.pos rfl (.ret _))
  have hA := smallB_spec hsa
  have hB := smallB_spec hsb
  cases a with
  | nil => exact Tends.bind (r := ([], b, (), true, [n0, n1], ())) (Tends.bind (small_tends [] 21 (by omega)) (Tends.pos (by simp [hsa]) (Tends.bind (small_tends b 21 (by omega)) (Tends.pos (by simp [hsb]) (Tends.neg (by simp) (.ret _)))))) (Tends.pos rfl (.ret _))
  | cons a0 pa =>
  cases b with
  | nil => exact Tends.bind (r := (a0 :: pa, [], (), true, [n0, n1], ())) (Tends.bind (small_tends (a0 :: pa) 21 (by omega)) (Tends.pos (by simp [hsa]) (Tends.bind (small_tends [] 21 (by omega)) (Tends.pos (by simp [hsb]) (Tends.pos (by simp; omega) (Tends.neg (by simp) (.ret _))))))) (Tends.pos rfl (.ret _))
  | cons b0 pb =>
  by_cases h0 : a0 = b0
  · exact Tends.bind (r := (a0 :: pa, b0 :: pb, (), true, [n0, n1], ())) (Tends.bind (small_tends (a0 :: pa) 21 (by omega)) (Tends.pos (by simp [hsa]) (Tends.bind (small_tends (b0 :: pb) 21 (by omega)) (Tends.pos (by simp [hsb]) (Tends.pos (by simp; omega) (Tends.pos (by simp; omega) (Tends.bind (r := a0) (.of fun F => rfl) (Tends.bind (r := b0) (.of fun F => rfl) (Tends.neg (by simp [h0]) (.ret _)))))))))) (Tends.pos rfl (.ret _))
  by_cases h1 : n0 < 1
  · exact Tends.bind (r := (a0 :: pa, b0 :: pb, (), true, [n0, n1], ())) (Tends.bind (small_tends (a0 :: pa) 21 (by omega)) (Tends.pos (by simp [hsa]) (Tends.bind (small_tends (b0 :: pb) 21 (by omega)) (Tends.pos (by simp [hsb]) (Tends.pos (by simp; omega) (Tends.pos (by simp; omega) (Tends.bind (r := a0) (.of fun F => rfl) (Tends.bind (r := b0) (.of fun F => rfl) (Tends.pos (by simp [h0]) (Tends.bind (r := n0) (.of fun F => rfl) (Tends.neg (by simp [h1]) (.ret _)))))))))))) (Tends.pos rfl (.ret _))
  by_cases h2 : 1048576 < n0
  · exact Tends.bind (r := (a0 :: pa, b0 :: pb, (), true, [n0, n1], ())) (Tends.bind (small_tends (a0 :: pa) 21 (by omega)) (Tends.pos (by simp [hsa]) (Tends.bind (small_tends (b0 :: pb) 21 (by omega)) (Tends.pos (by simp [hsb]) (Tends.pos (by simp; omega) (Tends.pos (by simp; omega) (Tends.bind (r := a0) (.of fun F => rfl) (Tends.bind (r := b0) (.of fun F => rfl) (Tends.pos (by simp [h0]) (Tends.bind (r := n0) (.of fun F => rfl) (Tends.pos (by simp [h1]) (Tends.bind (r := n0) (.of fun F => rfl) (Tends.neg (by simp [h2]) (.ret _)))))))))))))) (Tends.pos rfl (.ret _))
  by_cases h3 : n1 < 0
  · exact Tends.bind (r := (a0 :: pa, b0 :: pb, (), true, [n0, n1], ())) (Tends.bind (small_tends (a0 :: pa) 21 (by omega)) (Tends.pos (by simp [hsa]) (Tends.bind (small_tends (b0 :: pb) 21 (by omega)) (Tends.pos (by simp [hsb]) (Tends.pos (by simp; omega) (Tends.pos (by simp; omega) (Tends.bind (r := a0) (.of fun F => rfl) (Tends.bind (r := b0) (.of fun F => rfl) (Tends.pos (by simp [h0]) (Tends.bind (r := n0) (.of fun F => rfl) (Tends.pos (by simp [h1]) (Tends.bind (r := n0) (.of fun F => rfl) (Tends.pos (by simp [h2]) (Tends.bind (r := n1) (.of fun F => rfl) (Tends.neg (by simp [h3]) (.ret _)))))))))))))))) (Tends.pos rfl (.ret _))
  refine Tends.bind (r := (a0 :: pa, b0 :: pb, (), decide (n0 ≤ n1), [n0, n1], ())) (Tends.bind (small_tends (a0 :: pa) 21 (by omega)) (Tends.pos (by simp [hsa]) (Tends.bind (small_tends (b0 :: pb) 21 (by omega)) (Tends.pos (by simp [hsb]) (Tends.pos (by simp; omega) (Tends.pos (by simp; omega) (Tends.bind (r := a0) (.of fun F => rfl) (Tends.bind (r := b0) (.of fun F => rfl) (Tends.pos (by simp [h0]) (Tends.bind (r := n0) (.of fun F => rfl) (Tends.pos (by simp [h1]) (Tends.bind (r := n0) (.of fun F => rfl) (Tends.pos (by simp [h2]) (Tends.bind (r := n1) (.of fun F => rfl) (Tends.pos (by simp [h3]) (Tends.bind (r := n1) (.of fun F => rfl) (Tends.bind (r := n0) (.of fun F => rfl) (.ret _)))))))))))))))))) ?_
  by_cases h4 : n0 ≤ n1
  · exact Tends.pos (by simp [h4]) (.ret _)
  refine Tends.neg (by simp [h4]) ?_
  obtain ⟨N, rfl⟩ := Int.eq_ofNat_of_zero_le (show 0 ≤ n0 by omega)
  obtain ⟨I, rfl⟩ := Int.eq_ofNat_of_zero_le (show 0 ≤ n1 by omega)
  have hN1 : 1 ≤ N := by omega
  have hN : N ≤ 1048576 := by omega
  have hI : I < N := by omega
  clear h1 h2 h3 h4
  have sA : sub (a0 :: pa) 1 ((a0 :: pa).length : Int) = some pa := by simpa using subE (a0 :: pa) 1 (by simp)
  have sB : sub (b0 :: pb) 1 ((b0 :: pb).length : Int) = some pb := by simpa using subE (b0 :: pb) 1 (by simp)
  have la : a0.length ≤ 10000 := by have := hA.2 a0 (by simp); omega
  have lb : b0.length ≤ 10000 := by have := hB.2 b0 (by simp); omega
  have pA : Sp pa := fun y hy => by have := hA.2 y (by simp [hy]); omega
  have pB : Sp pb := fun y hy => by have := hB.2 y (by simp [hy]); omega
  have nA : pa.length ≤ 1000 := by have := hA.1; simp at this; omega
  have nB : pb.length ≤ 1000 := by have := hB.1; simp at this; omega
  refine Tends.bind (r := (a0 :: pa, b0 :: pb, (), (upD N I pa (leafD a0)).getD [], [(N : Int), (I : Int)], ())) (Tends.bind (r := (N : Int)) (.of fun F => rfl) (Tends.bind (r := (I : Int)) (.of fun F => rfl) (Tends.bind (r := a0) (.of fun F => rfl) (Tends.bind (rleaf_tends a0 (by omega)) (Tends.bind (.const sA) (Tends.bind (climb_tends (leafD a0) (dig_len _) N I pa hN (by omega) nA pA) (.ret _))))))) ?_
  have l32 : ((upD N I pa (leafD a0)).getD []).length ≤ 100000 := by
    cases hU : upD N I pa (leafD a0) with
    | none => simp
    | some x => have := upD_len hU (dig_len _); simp; omega
  refine Tends.bind (r := (N : Int)) (.of fun F => rfl) (Tends.bind (rseal_tends N _ (by omega) l32) ?_)
  cases hU : upD N I pa (leafD a0) with
  | none =>
    refine Tends.bind (r := (a0 :: pa, b0 :: pb, (), [], sealD N [], true, [(N : Int), (I : Int)], ())) (Tends.neg (by simp) (.ret _)) (Tends.pos rfl ?_)
    exact Tends.bind (r := (true, ())) (Tends.neg (by simp) (.ret _)) (.ret _)
  | some x =>
  have hx32 := upD_len hU (dig_len _)
  have hx0 : x ≠ [] := by rintro rfl; simp at hx32
  refine Tends.bind (r := (a0 :: pa, b0 :: pb, (), x, sealD N x, !chkI (sealD N x) (N : Int) (I : Int) b0 pb, [(N : Int), (I : Int)], ())) ?_ ?_
  · exact Tends.pos (by simpa using hx0) (Tends.bind (r := (N : Int)) (.of fun F => rfl) (Tends.bind (r := (I : Int)) (.of fun F => rfl) (Tends.bind (r := b0) (.of fun F => rfl) (Tends.bind (.const sB) (Tends.bind (check_tends (sealD N x) N I b0 pb lb nB pB) (.ret _))))))
  cases hb : chkI (sealD N x) (N : Int) (I : Int) b0 pb
  · refine Tends.pos rfl ?_
    refine Tends.bind (r := (true, ())) ?_ (.ret _)
    refine Tends.pos (by simpa using hx0) (Tends.bind (r := (N : Int)) (.of fun F => rfl) (Tends.bind (r := (I : Int)) (.of fun F => rfl) (Tends.bind (r := a0) (.of fun F => rfl) (Tends.bind (.const sA) (Tends.bind (check_tends (sealD N x) N I a0 pa la nA pA) (.of fun F => ?_))))))
    have : chkI (sealD N x) (N : Int) (I : Int) a0 pa = true := by
      rw [chkI_in hN1 hN hI]
      unfold checkD
      rw [hU]
      simp
    rw [this]
  · refine Tends.neg (by simp) ?_
    rw [chkI_in hN1 hN hI] at hb
    unfold checkD at hb
    cases hV : upD N I pb (leafD b0) with
    | none => rw [hV] at hb; cases hb
    | some y =>
    rw [hV] at hb
    have hy := of_decide_eq_true hb
    have hy32 := upD_len hV (dig_len _)
    obtain ⟨wa1, wa2⟩ := upD_way hU
    obtain ⟨wb1, wb2⟩ := upD_way hV
    obtain ⟨j, hj, hj', e1, e2⟩ := two_all N (turnsD N I).reverse a0 b0 pa pb x y h0 (by simp; omega) (by simp; omega) wa2 wb2 hy.symm
    have tl := topsL_len (turnsD N I).reverse pa (leafD a0) (by simp; omega)
    rw [List.length_reverse] at tl
    refine Tends.bind (r := (topsD N (turnsD N I).reverse a0 pa x, topsD N (turnsD N I).reverse b0 pb y, ())) ?_ ?_
    · exact Tends.bind (r := (N : Int)) (.of fun F => rfl) (Tends.bind (r := (I : Int)) (.of fun F => rfl) (Tends.bind (r := a0) (.of fun F => rfl) (Tends.bind (.const sA) (Tends.bind (tops_tends N I hN (by omega) a0 la pa nA pA x hU)
        (Tends.bind (r := (N : Int)) (.of fun F => rfl) (Tends.bind (r := (I : Int)) (.of fun F => rfl) (Tends.bind (r := b0) (.of fun F => rfl) (Tends.bind (.const sB) (Tends.bind (tops_tends N I hN (by omega) b0 lb pb nB pB y hV) (.ret _))))))))))
    · refine Tends.bind (binds_loop _ _ (topsD_sp N hN _ a0 la pa pA x hx32) (topsD_sp N hN _ b0 lb pb pB y hy32) ?_ j hj hj' e1 e2 j 0 (by omega)).run (.ret _)
      unfold topsD
      simp
      omega

end Go.Vm
