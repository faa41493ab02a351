/- The law concierge/conciergelaw38.HeadTurned: for every input it answers true. No condition. -/
import Derived.Test.YtgeafoacmnlioaaDoorLFHeadTurned
import Derived.Test.YtgeafoacmnlioaaDoorTie
import Derived.Test.YtgeafoacmnlioaaDoorCards
import Derived.Lay
import Derived.LaidLaws
import Derived.LaidOnce
import Derived.SevenTiedAt
import Derived.MakeChecks
import Derived.Handed
import Derived.Test.YtgeafoacmnlioaaDoorFhshp
import Derived.Test.YtgeafoacmnlioaaDoorRows
import Derived.Test.YtgeafoacmnlioaaDoorFlaw38
import Derived.Test.YtgeafoacmnlioaaDoorPhd8
import Derived.WalkKit
import Derived.ProofKit
import Derived.OpenShut
import Derived.ShutString
import Derived.ChangeOld
import Derived.Below
import Derived.SizedLaws
import Derived.SliceStrings
import Derived.WideKeyPair
namespace Go.Proofs.YtgeafoacmnlioaaDoor.headTurned
open Go.ChangeShapes Go.WideShapes Go.ChangeAt Go.RowKit
open Go.ChangeMaps (open_string shut_string)
set_option linter.unusedVariables false
theorem own : ownKnob Tryd.prog.godebug = none := by kernel_rfl
theorem laidOut : laidOutB Tryd.prog = true := by kernel_rfl
theorem opened0 {H : Type} {enc : TypeId × Value → H} {W : World} {base : Nat} {sp : Nat → Bool} {held : Bool} : Go.Vm.Opens (Go.Vm.Spot W) Go.Vm.kt enc Tryd.prog W base sp held 37 [(.int .i64), (.int .i64), (.int .i64), .str, .str, .str, .str] :=
  (Go.Vm.opens_struct Tryd.underlying37 (by kernel_rfl) (Go.Vm.OpensF.cons (s := [(.int .i64)]) (s' := [(.int .i64), (.int .i64), .str, .str, .str, .str]) rfl (by kernel_rfl) (Go.Vm.opens_int Tryd.underlying3 (by decide)) (Go.Vm.OpensF.cons (s := [(.int .i64)]) (s' := [(.int .i64), .str, .str, .str, .str]) rfl (by kernel_rfl) (Go.Vm.opens_int Tryd.underlying3 (by decide)) (Go.Vm.OpensF.cons (s := [(.int .i64)]) (s' := [.str, .str, .str, .str]) rfl (by kernel_rfl) (Go.Vm.opens_int Tryd.underlying3 (by decide)) (Go.Vm.OpensF.cons (s := [.str]) (s' := [.str, .str, .str]) rfl (by kernel_rfl) (Go.Vm.opens_str Tryd.underlying9) (Go.Vm.OpensF.cons (s := [.str]) (s' := [.str, .str]) rfl (by kernel_rfl) (Go.Vm.opens_str Tryd.underlying9) (Go.Vm.OpensF.cons (s := [.str]) (s' := [.str]) rfl (by kernel_rfl) (Go.Vm.opens_str Tryd.underlying9) (Go.Vm.OpensF.cons (s := [.str]) (s' := []) rfl (by kernel_rfl) (Go.Vm.opens_str Tryd.underlying9) (Go.Vm.OpensF.nil _)))))))))
def laid : List (String × DataW Unit) := [("unicode/utf8.acceptRanges", Rows.laid_unicode_utf8_acceptRanges), ("unicode/utf8.first", Rows.laid_unicode_utf8_first)]
set_option maxRecDepth 100000 in
theorem glOf {w : World} (h0 : laidMetH Tryd.prog laid w) (hS : w.ShapedOpen Tryd.prog) : Go.Vm.kt.gl w := by
  have h : laidMet Tryd.prog laid w := by rw [← MakeChecks.laidMetH_plain _ _ _ (by kernel_rfl)]; exact h0
  have u0 := Go.Vm.utf8_of_laid (ρ := Go.Vm.Trm.r_ren) ({ Go.Vm.Trm.r_lays with } : U8Types Tryd.prog Go.Vm.Trm.r_ren) ⟨by kernel_rfl, by kernel_rfl, by kernel_rfl, by kernel_rfl, by kernel_rfl, by kernel_rfl, by kernel_rfl⟩ h (List.mem_of_getElem? (i := 1) (by kernel_rfl)) (List.mem_of_getElem? (i := 0) (by kernel_rfl))
  have i0 := Go.Proofs.cell_of_shapedOpen_int (g := 0) hS (of_decide_eq_true (by kernel_rfl)) (zero := #[.int .i64 0]) (t := 3) (by kernel_rfl) rfl (by kernel_rfl) (by kernel_rfl) Tryd.underlying3
  refine ⟨(Go.Vm.utf8_sz1 u0), fun x hx => ?_, fun g hg => ?_, ⟨u0, fun g hg => by simp only [List.mem_cons, List.not_mem_nil, or_false] at hg; rcases hg with rfl <;> first | exact i0⟩⟩
  · simp at hx
  · simp at hg
set_option maxHeartbeats 2000000 in
set_option maxRecDepth 100000 in
theorem lifted (os : Os) (started : os.Started) (H : Type) (enc : TypeId × Value → H) :
    ReturnsInHanded {} Tryd.checked os 6 .any (fun w args => (Rows.headTurnedSpec.pre enc Tryd.prog Tryd.f6 [] false w args ∧ laidMetH Tryd.prog laid w) ∧ sizedMet enc Tryd.prog Tryd.f6 (OpenSpec.ofChange Rows.headTurnedSpec) false w args) (Rows.headTurnedSpec.post enc Tryd.prog Tryd.f6 false true false false) := by
  refine Go.Vm.handed_shaped (C := Tryd.checked) (X := fun w _ => laidMetH Tryd.prog laid w) (fun _ _ _ hh h => h.of_heap hh) own started (by kernel_rfl) Tryd.func6
    (ChangeSpec.witness_shaped (enc := enc) (C := Tryd.checked) (os := os) (X := fun w _ => laidMetH Tryd.prog laid w) false (World.laidAll Tryd.prog os laid) #[.agg #[.int .i64 0, .int .i64 0, .int .i64 0, .string ByteArray.empty, .string ByteArray.empty, .string ByteArray.empty, .string ByteArray.empty]] 8 (World.laidAll_os _ _ _)
      (World.shaped_of_ZipB (by kernel_rfl) (by kernel_rfl)) (by kernel_rfl) (by kernel_rfl) (by kernel_rfl)
      (by rw [MakeChecks.laidMetH_plain _ _ _ (by kernel_rfl)]; exact laidMet_laidAll _ (by kernel_rfl) (by kernel_rfl))) ?_
  intro W base args ds gs before hval0 hW hcnd hsz0 hL hS _
  have hsz : (DataW.weightsEach Tryd.prog (Tryd.f6.params.toList ++ Rows.headTurnedSpec.plain.varTypes Tryd.prog) (ds ++ gs)).all (· ≤ reachBytes) = true := hsz0
  have hval : ∀ (j : Nat) t v, Tryd.f6.params[j]? = some t → args[j]? = some v → Value.okWide Tryd.prog W .any base t v := hval0
  have hW' := hW
  obtain ⟨p, q, hA0, hV, rfl, hfz, hnd⟩ := hW
  have hA : DataW.TrodAll enc Tryd.prog W 0 (fun _ => true) true Tryd.f6.params.toList args.toList ds p := hA0
  rw [Tryd.params6] at hA hval hsz
  obtain ⟨v0, vs0, d0, ds0, p0, q0, hargs, rfl, rfl, h0, r0⟩ := trodAll_cons hA
  obtain ⟨rfl, rfl, rfl⟩ := trodAll_nil r0
  obtain rfl : args = #[v0] := by cases args; simp_all
  obtain ⟨rfl, rfl⟩ := trodVars_none hV
  obtain ⟨cs0, rfl, hz0⟩ := okWide_struct Tryd.underlying37 (hval 0 37 v0 rfl rfl)
  have k0 := h0
  have lt0 : ∀ x ∈ p0, x.block < W.heap.size := by obtain ⟨m, hm⟩ := k0; exact DataW.trod_lt m _ _ _ hm
  obtain ⟨x0, rr0⟩ := Go.Vm.open_val opened0 (hval 0 37 _ rfl rfl) h0
  obtain ⟨a0_0, a0_1, a0_2, a0_3, a0_4, a0_5, a0_6, ⟨⟩⟩ := x0
  clear hA0 hval0 hsz0 hsz
  obtain ⟨F, hF⟩ := Go.Vm.pure_conciergelaw38_HeadTurned (a0_0, a0_1, a0_2, a0_3, a0_4, a0_5, a0_6, ())
  refine (Go.Vm.law_below (Go.Vm.c_conciergelaw38_HeadTurned F) Tryd.func6 (by kernel_rfl) (by kernel_rfl) hF (ds := [.agg (Go.Vm.absL [(.int .i64), (.int .i64), (.int .i64), .str, .str, .str, .str] (a0_0, a0_1, a0_2, a0_3, a0_4, a0_5, a0_6, ()))]) rfl rfl (Go.Vm.own_sh (Go.Vm.rep_agg' rr0) rfl Go.Vm.OwnL.nil) (glOf hL hS)).mono fun e W' ⟨he, bel⟩ => ?_
  subst he
  exact ⟨_, rfl, _, _, _, [], _, [], hW', trodAll_mk1 (shut_bool Tryd.underlying4 _), (trodAll_cons_mk (Below.trod laidOut (by kernel_rfl) (of_decide_eq_true (by kernel_rfl)) k0 bel lt0) trodAll_mk0), rfl, bel.frame _, fun h => by cases h⟩
theorem over : Rows.headTurnedRow.holds Tryd.pinned (OpenSpec.ofChange Rows.headTurnedSpec) :=
  OpenClaim.holds_of_wide 6 Tryd.f6 rfl rfl rfl rfl rfl rfl rfl ⟨rfl, rfl, rfl, rfl, rfl⟩ rfl rfl rfl rfl rfl (by kernel_rfl) Tryd.func6 closed
    (of_decide_eq_true (by kernel_rfl)) (by unfold Func.isWrapper; first | (rw [if_pos (by decide +kernel)]; kernel_rfl) | (rw [if_neg (by decide +kernel)]; exact ⟨rfl, rfl⟩))
    (fun os started H enc _ => lifted os started H enc)
theorem proved : Rows.HeadTurnedCardSaid :=
  Claim7.holds_tied_plain_at .later [] [.data, .pinned] true (true, "dbc2674e3c58bff7d21401558cef54afe90ea306819bd404b1fca094aa77cd31") false over (fun _ h => by cases h) byText (fun _ h => by cases h) Go.Proofs.YtgeafoacmnlioaaDoor.headTurned_row_tie rfl ⟨rfl, rfl⟩ mainIs rfl
    (fun f fn hf hfn => by
      obtain rfl : f = 6 := Option.some.inj (namedAt.symm.trans hf) |>.symm
      obtain rfl : fn = Tryd.f6 := (Option.some.inj (Tryd.func6.symm.trans hfn)).symm
      exact ⟨looksAt, fun j t ht => by
        rw [Tryd.params6] at ht
        have hm : t ∈ [37] := by simpa using Array.mem_of_getElem? ht
        exact (show Tryd.prog.wantsStandIn t = false by simpa using List.all_eq_true.1 noStand t hm)⟩)
    goesBy
end Go.Proofs.YtgeafoacmnlioaaDoor.headTurned
namespace Go.Proofs.YtgeafoacmnlioaaDoor
theorem headTurned_holds : Rows.HeadTurnedCardSaid := headTurned.proved
#print axioms headTurned_holds
end Go.Proofs.YtgeafoacmnlioaaDoor
