/- The law concierge/conciergelaw41.ProofBinds: for every input it answers true. No condition. -/
import Derived.Test.YtblbmkhlnaaopaaRows
import Derived.Test.YtblbmkhlnaaopaaFlaw41
import Derived.Test.YtblbmkhlnaaopaaPp6
import Derived.WalkKit
import Derived.ProofKit
import Derived.OpenShut
import Derived.ShutString
import Derived.ChangeOld
import Derived.Below
import Derived.SizedLaws
import Derived.SliceStrings
import Derived.WideKeyPair
namespace Go.Proofs.Ytblbmkhlnaaopaa.proofBinds
open Go.ChangeShapes Go.WideShapes Go.ChangeAt Go.RowKit
open Go.ChangeMaps (open_string shut_string)
set_option linter.unusedVariables false
theorem own : ownKnob Try.prog.godebug = none := by kernel_rfl
theorem laidOut : laidOutB Try.prog = true := by kernel_rfl
theorem arr0 : Go.WideMaps.ArrKey Try.prog 45 3 2 := ⟨Try.underlying45, by kernel_rfl, by kernel_rfl, by kernel_rfl⟩
set_option maxRecDepth 100000 in
theorem lifted (os : Os) (started : os.Started) (H : Type) (enc : TypeId × Value → H) :
    ReturnsInHanded {} Try.checked os 8 .any (Rows.proofBindsSpec.pre6 enc Try.prog Try.f8 Rows.proofBindsRow.domain false) (Rows.proofBindsSpec.post enc Try.prog Try.f8 false true false false) := by
  refine returnsInHanded_of_change_sized (C := Try.checked) own started (by kernel_rfl) Try.func8
    (ChangeSpec.witness6 (enc := enc) (C := Try.checked) false ⟨#[], #[.agg #[.int .i64 0, .int .i64 0], .slice none 0 0, .slice none 0 0], []⟩ 8 (by kernel_rfl) (by kernel_rfl) (by kernel_rfl) (by kernel_rfl)) ?_
  intro W base args ds gs before hval0 hW hcnd hsz0 _
  have hsz : (DataW.weightsEach Try.prog (Try.f8.params.toList ++ Rows.proofBindsSpec.plain.varTypes Try.prog) (ds ++ gs)).all (· ≤ reachBytes) = true := hsz0
  have hval : ∀ (j : Nat) t v, Try.f8.params[j]? = some t → args[j]? = some v → Value.okWide Try.prog W .any base t v := hval0
  have hW' := hW
  obtain ⟨p, q, hA0, hV, rfl, hfz, hnd⟩ := hW
  have hA : DataW.TrodAll enc Try.prog W 0 (fun _ => true) true Try.f8.params.toList args.toList ds p := hA0
  rw [Try.params8] at hA hval hsz
  obtain ⟨v0, vs0, d0, ds0, p0, q0, hargs, rfl, rfl, h0, r0⟩ := trodAll_cons hA
  obtain ⟨v1, vs1, d1, ds1, p1, q1, rfl, rfl, rfl, h1, r1⟩ := trodAll_cons r0
  obtain ⟨v2, vs2, d2, ds2, p2, q2, rfl, rfl, rfl, h2, r2⟩ := trodAll_cons r1
  obtain ⟨rfl, rfl, rfl⟩ := trodAll_nil r2
  obtain rfl : args = #[v0, v1, v2] := by cases args; simp_all
  obtain ⟨rfl, rfl⟩ := trodVars_none hV
  obtain ⟨a0, b0, rfl, rfl, rfl, w0, x0⟩ := Go.WideMaps.open_pair arr0 Try.underlying3 (hval 0 45 v0 rfl rfl) h0
  obtain ⟨a1, len1, cap1, rfl⟩ := okWide_slice Try.underlying27 (hval 1 27 v1 rfl rfl)
  have k1 := h1
  have lt1 : ∀ x ∈ p1, x.block < W.heap.size := by obtain ⟨m, hm⟩ := k1; exact DataW.trod_lt m _ _ _ hm
  obtain ⟨z1, w1⟩ : ∃ zs : List ByteArray, ((a1 = none ∧ len1 = 0 ∧ cap1 = 0 ∧ zs = []) ∨ ∃ x, a1 = some x ∧ x.spot = none ∧ x.block < W.heap.size ∧ len1 ≤ cap1 ∧ zs.length = cap1 ∧ ∀ i, i < zs.length → W.cell? (x.add i) = some (.string (zs.getD i ByteArray.empty))) := by
    obtain ⟨fuel, hf⟩ := h1
    rcases open_strings Try.underlying27 Try.underlying9 (by kernel_rfl) hf with ⟨hcs, _⟩ | ⟨x, l, c, zs, hcs, hx, hl, hm, hz, hzz, hcell, hwz⟩
    · simp [Value.cells] at hcs
      obtain ⟨rfl, rfl, rfl⟩ := hcs
      exact ⟨[], .inl ⟨rfl, rfl, rfl, rfl⟩⟩
    · simp [Value.cells] at hcs
      obtain ⟨rfl, rfl, rfl⟩ := hcs
      exact ⟨zs, .inr ⟨_, rfl, Go.Vm.slice_spot Try.underlying27 (hval 1 27 _ rfl rfl), Go.Vm.slice_lt Try.underlying27 (hval 1 27 _ rfl rfl), hl, by simpa using hz, hcell⟩⟩
  obtain ⟨a2, len2, cap2, rfl⟩ := okWide_slice Try.underlying27 (hval 2 27 v2 rfl rfl)
  have k2 := h2
  have lt2 : ∀ x ∈ p2, x.block < W.heap.size := by obtain ⟨m, hm⟩ := k2; exact DataW.trod_lt m _ _ _ hm
  obtain ⟨z2, w2⟩ : ∃ zs : List ByteArray, ((a2 = none ∧ len2 = 0 ∧ cap2 = 0 ∧ zs = []) ∨ ∃ x, a2 = some x ∧ x.spot = none ∧ x.block < W.heap.size ∧ len2 ≤ cap2 ∧ zs.length = cap2 ∧ ∀ i, i < zs.length → W.cell? (x.add i) = some (.string (zs.getD i ByteArray.empty))) := by
    obtain ⟨fuel, hf⟩ := h2
    rcases open_strings Try.underlying27 Try.underlying9 (by kernel_rfl) hf with ⟨hcs, _⟩ | ⟨x, l, c, zs, hcs, hx, hl, hm, hz, hzz, hcell, hwz⟩
    · simp [Value.cells] at hcs
      obtain ⟨rfl, rfl, rfl⟩ := hcs
      exact ⟨[], .inl ⟨rfl, rfl, rfl, rfl⟩⟩
    · simp [Value.cells] at hcs
      obtain ⟨rfl, rfl, rfl⟩ := hcs
      exact ⟨zs, .inr ⟨_, rfl, Go.Vm.slice_spot Try.underlying27 (hval 2 27 _ rfl rfl), Go.Vm.slice_lt Try.underlying27 (hval 2 27 _ rfl rfl), hl, by simpa using hz, hcell⟩⟩
  clear hA0 hval0 hsz0 hsz
  obtain ⟨F, hF⟩ := Go.Vm.pure_conciergelaw41_ProofBinds a0 b0 ((z1.take len1).map fun s => s.data.toList) ((z2.take len2).map fun s => s.data.toList)
  refine (Go.Vm.law_below (Go.Vm.c_conciergelaw41_ProofBinds F) Try.func8 (by kernel_rfl) (by kernel_rfl) hF (ds := [.arr 2 .i64 [a0, b0], .slc .str ((z1.take len1).map fun s => s.data.toList), .slc .str ((z2.take len2).map fun s => s.data.toList)]) rfl rfl (Go.Vm.own_sh (Go.Vm.rep_pair a0 b0) rfl (Go.Vm.own_sh (Go.Vm.rep_strs a1 len1 cap1 z1 w1) rfl (Go.Vm.own_sh (Go.Vm.rep_strs a2 len2 cap2 z2 w2) rfl Go.Vm.OwnL.nil)))).mono fun e W' ⟨he, bel⟩ => ?_
  subst he
  exact ⟨_, rfl, _, _, _, [], _, [], hW', trodAll_mk1 (shut_bool Try.underlying4 _), (trodAll_cons_mk (Go.WideMaps.shut_pair arr0 Try.underlying3 w0 x0) (trodAll_cons_mk (Below.trod laidOut (by kernel_rfl) (of_decide_eq_true (by kernel_rfl)) k1 bel lt1) (trodAll_cons_mk (Below.trod laidOut (by kernel_rfl) (of_decide_eq_true (by kernel_rfl)) k2 bel lt2) trodAll_mk0))), rfl, bel.frame _, fun h => by cases h⟩
theorem over : Rows.proofBindsRow.holds Try.pinned (OpenSpec.ofChange Rows.proofBindsSpec) :=
  OpenClaim.holds_of_wide 8 Try.f8 rfl rfl rfl rfl rfl rfl rfl ⟨rfl, rfl, rfl, rfl, rfl⟩ rfl rfl rfl rfl rfl (by kernel_rfl) Try.func8 (by kernel_rfl)
    (of_decide_eq_true (by kernel_rfl)) (by unfold Func.isWrapper; first | (rw [if_pos (by decide +kernel)]; kernel_rfl) | (rw [if_neg (by decide +kernel)]; exact ⟨rfl, rfl⟩))
    (fun os started H enc _ => lifted os started H enc)
theorem proved : Rows.ProofBindsSaid := over
end Go.Proofs.Ytblbmkhlnaaopaa.proofBinds
namespace Go.Proofs.Ytblbmkhlnaaopaa
/-- The row, under a short name, for the claim. -/
theorem proofBinds_holds : Rows.ProofBindsSaid := proofBinds.proved
#print axioms proofBinds_holds
end Go.Proofs.Ytblbmkhlnaaopaa
