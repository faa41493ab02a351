/- The law concierge/conciergelaw38.HeadAny: for every input it answers true. No condition. -/
import Derived.Test.YtgeafoacmnlioaaDoorLFHeadAny
import Derived.Test.YtgeafoacmnlioaaDoorTie
import Derived.Test.YtgeafoacmnlioaaDoorCards
import Derived.Lay
import Derived.LaidLaws
import Derived.LaidOnce
import Derived.SevenTiedAt
import Derived.MakeChecks
import Derived.Handed
import Derived.Test.YtgeafoacmnlioaaDoorFhshp
import Derived.Test.YtgeafoacmnlioaaDoorRows
import Derived.Test.YtgeafoacmnlioaaDoorFlaw38
import Derived.Test.YtgeafoacmnlioaaDoorPhd9
import Derived.WalkKit
import Derived.ProofKit
import Derived.OpenShut
import Derived.ShutString
import Derived.ChangeOld
import Derived.Below
import Derived.SizedLaws
import Derived.SliceStrings
import Derived.WideKeyPair
namespace Go.Proofs.YtgeafoacmnlioaaDoor.headAny
open Go.ChangeShapes Go.WideShapes Go.ChangeAt Go.RowKit
open Go.ChangeMaps (open_string shut_string)
set_option linter.unusedVariables false
theorem own : ownKnob Tryd.prog.godebug = none := by kernel_rfl
def laid : List (String × DataW Unit) := [("unicode/utf8.acceptRanges", Rows.laid_unicode_utf8_acceptRanges), ("unicode/utf8.first", Rows.laid_unicode_utf8_first)]
set_option maxRecDepth 100000 in
theorem glOf {w : World} (h0 : laidMetH Tryd.prog laid w) (hS : w.ShapedOpen Tryd.prog) : Go.Vm.kt.gl w := by
  have h : laidMet Tryd.prog laid w := by rw [← MakeChecks.laidMetH_plain _ _ _ (by kernel_rfl)]; exact h0
  have u0 := Go.Vm.utf8_of_laid (ρ := Go.Vm.Trm.r_ren) ({ Go.Vm.Trm.r_lays with } : U8Types Tryd.prog Go.Vm.Trm.r_ren) ⟨by kernel_rfl, by kernel_rfl, by kernel_rfl, by kernel_rfl, by kernel_rfl, by kernel_rfl, by kernel_rfl⟩ h (List.mem_of_getElem? (i := 1) (by kernel_rfl)) (List.mem_of_getElem? (i := 0) (by kernel_rfl))
  have i0 := Go.Proofs.cell_of_shapedOpen_int (g := 0) hS (of_decide_eq_true (by kernel_rfl)) (zero := #[.int .i64 0]) (t := 3) (by kernel_rfl) rfl (by kernel_rfl) (by kernel_rfl) Tryd.underlying3
  refine ⟨(Go.Vm.utf8_sz1 u0), fun x hx => ?_, fun g hg => ?_, ⟨u0, fun g hg => by simp only [List.mem_cons, List.not_mem_nil, or_false] at hg; rcases hg with rfl <;> first | exact i0⟩⟩
  · simp at hx
  · simp at hg
set_option maxHeartbeats 2000000 in
set_option maxRecDepth 100000 in
theorem lifted (os : Os) (started : os.Started) (H : Type) (enc : TypeId × Value → H) :
    ReturnsInHanded {} Tryd.checked os 5 .any (fun w args => (Rows.headAnySpec.pre enc Tryd.prog Tryd.f5 [] false w args ∧ laidMetH Tryd.prog laid w) ∧ sizedMet enc Tryd.prog Tryd.f5 (OpenSpec.ofChange Rows.headAnySpec) false w args) (Rows.headAnySpec.post enc Tryd.prog Tryd.f5 false true false false) := by
  refine Go.Vm.handed_shaped (C := Tryd.checked) (X := fun w _ => laidMetH Tryd.prog laid w) (fun _ _ _ hh h => h.of_heap hh) own started (by kernel_rfl) Tryd.func5
    (ChangeSpec.witness_shaped (enc := enc) (C := Tryd.checked) (os := os) (X := fun w _ => laidMetH Tryd.prog laid w) false (World.laidAll Tryd.prog os laid) #[.string ByteArray.empty, .string ByteArray.empty] 8 (World.laidAll_os _ _ _)
      (World.shaped_of_ZipB (by kernel_rfl) (by kernel_rfl)) (by kernel_rfl) (by kernel_rfl) (by kernel_rfl)
      (by rw [MakeChecks.laidMetH_plain _ _ _ (by kernel_rfl)]; exact laidMet_laidAll _ (by kernel_rfl) (by kernel_rfl))) ?_
  intro W base args ds gs before hval0 hW hcnd hsz0 hL hS _
  have hsz : (DataW.weightsEach Tryd.prog (Tryd.f5.params.toList ++ Rows.headAnySpec.plain.varTypes Tryd.prog) (ds ++ gs)).all (· ≤ reachBytes) = true := hsz0
  have hval : ∀ (j : Nat) t v, Tryd.f5.params[j]? = some t → args[j]? = some v → Value.okWide Tryd.prog W .any base t v := hval0
  have hW' := hW
  obtain ⟨p, q, hA0, hV, rfl, hfz, hnd⟩ := hW
  have hA : DataW.TrodAll enc Tryd.prog W 0 (fun _ => true) true Tryd.f5.params.toList args.toList ds p := hA0
  rw [Tryd.params5] at hA hval hsz
  obtain ⟨v0, vs0, d0, ds0, p0, q0, hargs, rfl, rfl, h0, r0⟩ := trodAll_cons hA
  obtain ⟨v1, vs1, d1, ds1, p1, q1, rfl, rfl, rfl, h1, r1⟩ := trodAll_cons r0
  obtain ⟨rfl, rfl, rfl⟩ := trodAll_nil r1
  obtain rfl : args = #[v0, v1] := by cases args; simp_all
  obtain ⟨rfl, rfl⟩ := trodVars_none hV
  obtain ⟨a0, rfl, rfl, rfl, y0⟩ := open_string Tryd.underlying9 (hval 0 9 v0 rfl rfl) h0
  have w0 : a0.size ≤ 140737488351232 := by
    have z := sized_string hsz (j := 0) (t := 9) rfl rfl
    rw [Array.length_toList] at z
    exact z
  obtain ⟨a1, rfl, rfl, rfl, y1⟩ := open_string Tryd.underlying9 (hval 1 9 v1 rfl rfl) h1
  have w1 : a1.size ≤ 140737488351232 := by
    have z := sized_string hsz (j := 1) (t := 9) rfl rfl
    rw [Array.length_toList] at z
    exact z
  clear hA0 hval0 hsz0 hsz
  obtain ⟨F, hF⟩ := Go.Vm.pure_conciergelaw38_HeadAny a0.data.toList a1.data.toList
  refine (Go.Vm.law_below (Go.Vm.c_conciergelaw38_HeadAny F) Tryd.func5 (by kernel_rfl) (by kernel_rfl) hF (ds := [.str a0.data.toList, .str a1.data.toList]) rfl rfl (Go.Vm.own_sh (Go.Vm.rep_string a0) rfl (Go.Vm.own_sh (Go.Vm.rep_string a1) rfl Go.Vm.OwnL.nil)) (glOf hL hS)).mono fun e W' ⟨he, bel⟩ => ?_
  subst he
  exact ⟨_, rfl, _, _, _, [], _, [], hW', trodAll_mk1 (shut_bool Tryd.underlying4 _), (trodAll_cons_mk (shut_string Tryd.underlying9 y0) (trodAll_cons_mk (shut_string Tryd.underlying9 y1) trodAll_mk0)), rfl, bel.frame _, fun h => by cases h⟩
theorem over : Rows.headAnyRow.holds Tryd.pinned (OpenSpec.ofChange Rows.headAnySpec) :=
  OpenClaim.holds_of_wide 5 Tryd.f5 rfl rfl rfl rfl rfl rfl rfl ⟨rfl, rfl, rfl, rfl, rfl⟩ rfl rfl rfl rfl rfl (by kernel_rfl) Tryd.func5 closed
    (of_decide_eq_true (by kernel_rfl)) (by unfold Func.isWrapper; first | (rw [if_pos (by decide +kernel)]; kernel_rfl) | (rw [if_neg (by decide +kernel)]; exact ⟨rfl, rfl⟩))
    (fun os started H enc _ => lifted os started H enc)
theorem proved : Rows.HeadAnyCardSaid :=
  Claim7.holds_tied_plain_at .later [] [.data, .pinned] true (true, "dbc2674e3c58bff7d21401558cef54afe90ea306819bd404b1fca094aa77cd31") false over (fun _ h => by cases h) byText (fun _ h => by cases h) Go.Proofs.YtgeafoacmnlioaaDoor.headAny_row_tie rfl ⟨rfl, rfl⟩ mainIs rfl
    (fun f fn hf hfn => by
      obtain rfl : f = 5 := Option.some.inj (namedAt.symm.trans hf) |>.symm
      obtain rfl : fn = Tryd.f5 := (Option.some.inj (Tryd.func5.symm.trans hfn)).symm
      exact ⟨looksAt, fun j t ht => by
        rw [Tryd.params5] at ht
        have hm : t ∈ [9] := by simpa using Array.mem_of_getElem? ht
        exact (show Tryd.prog.wantsStandIn t = false by simpa using List.all_eq_true.1 noStand t hm)⟩)
    goesBy
end Go.Proofs.YtgeafoacmnlioaaDoor.headAny
namespace Go.Proofs.YtgeafoacmnlioaaDoor
theorem headAny_holds : Rows.HeadAnyCardSaid := headAny.proved
#print axioms headAny_holds
end Go.Proofs.YtgeafoacmnlioaaDoor
