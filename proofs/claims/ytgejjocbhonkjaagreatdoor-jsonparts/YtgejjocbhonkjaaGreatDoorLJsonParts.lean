/- The law concierge/conciergelaw09.JsonParts: for every input it answers true. No condition. -/
import Derived.Test.YtgejjocbhonkjaaGreatDoorTie
import Derived.Test.YtgejjocbhonkjaaGreatDoorCards
import Derived.Lay
import Derived.LaidLaws
import Derived.LaidOnce
import Derived.SevenTiedAt
import Derived.MakeChecks
import Derived.Handed
import Derived.Test.YtgejjocbhonkjaaGreatDoorRows
import Derived.Test.YtgejjocbhonkjaaGreatDoorFlaw9
import Derived.Test.YtgejjocbhonkjaaGreatDoorPj22
import Derived.WalkKit
import Derived.ProofKit
import Derived.OpenShut
import Derived.ShutString
import Derived.ChangeOld
import Derived.Below
import Derived.SizedLaws
import Derived.SliceStrings
import Derived.WideKeyPair
namespace Go.Proofs.YtgejjocbhonkjaaGreatDoor.jsonParts
open Go.ChangeShapes Go.WideShapes Go.ChangeAt Go.RowKit
open Go.ChangeMaps (open_string shut_string)
set_option linter.unusedVariables false
theorem own : ownKnob Tryz.prog.godebug = none := by kernel_rfl
def laid : List (String × DataW Unit) := [("math/bits.deBruijn32tab", Rows.laid_math_bits_deBruijn32tab), ("math/bits.deBruijn64tab", Rows.laid_math_bits_deBruijn64tab), ("internal/strconv.uint64pow10", Rows.laid_internal_strconv_uint64pow10), ("strconv.ErrRange", Rows.laid_strconv_ErrRange), ("strconv.ErrSyntax", Rows.laid_strconv_ErrSyntax)]
set_option maxRecDepth 100000 in
theorem glOf {w : World} (h0 : laidMetH Tryz.prog laid w) : Go.Vm.kt.gl w := by
  have h : laidMet Tryz.prog laid w := by rw [← MakeChecks.laidMetH_plain _ _ _ (by kernel_rfl)]; exact h0
  have t0 := Go.Vm.tab_of_laid h (name := "internal/strconv.uint64pow10") (k := .u64) (zs := Go.Lib.pow10Tab) (List.mem_of_getElem? (i := 2) rfl) (by kernel_rfl) (g := 1) (by kernel_rfl) rfl rfl rfl (by kernel_rfl) (by kernel_rfl)
  have e0 := Go.Vm.err_of_laid h (name := "strconv.ErrSyntax") (List.mem_of_getElem? (i := 4) rfl) (g := 2) (by kernel_rfl) rfl rfl
  refine ⟨e0.2, fun x hx => ?_, fun g hg => ?_, trivial⟩
  · simp only [List.mem_cons, List.not_mem_nil, or_false] at hx
    rcases hx with rfl
    · exact t0
  · simp only [List.mem_cons, List.not_mem_nil, or_false] at hg
    rcases hg with rfl
    · exact e0.1
set_option maxHeartbeats 2000000 in
set_option maxRecDepth 100000 in
theorem lifted (os : Os) (started : os.Started) (H : Type) (enc : TypeId × Value → H) :
    ReturnsInHanded {} Tryz.checked os 7 .any (fun w args => (Rows.jsonPartsSpec.pre enc Tryz.prog Tryz.f7 [] false w args ∧ laidMetH Tryz.prog laid w) ∧ sizedMet enc Tryz.prog Tryz.f7 (OpenSpec.ofChange Rows.jsonPartsSpec) false w args) (Rows.jsonPartsSpec.post enc Tryz.prog Tryz.f7 false true false false) := by
  refine returnsInHanded_of_change_and (C := Tryz.checked) (X := fun w _ => laidMetH Tryz.prog laid w) (fun _ _ _ hh h => h.of_heap hh) own started (by kernel_rfl) Tryz.func7
    (ChangeSpec.witness_shaped (enc := enc) (C := Tryz.checked) (os := os) (X := fun w _ => laidMetH Tryz.prog laid w) false (World.laidAll Tryz.prog os laid) #[.string ByteArray.empty, .string ByteArray.empty, .int .i64 0] 8 (World.laidAll_os _ _ _)
      (World.shaped_of_ZipB (by kernel_rfl) (by kernel_rfl)) (by kernel_rfl) (by kernel_rfl) (by kernel_rfl)
      (by rw [MakeChecks.laidMetH_plain _ _ _ (by kernel_rfl)]; exact laidMet_laidAll _ (by kernel_rfl) (by kernel_rfl))) ?_
  intro W base args ds gs before hval0 hW hcnd hsz0 hL _
  have hsz : (DataW.weightsEach Tryz.prog (Tryz.f7.params.toList ++ Rows.jsonPartsSpec.plain.varTypes Tryz.prog) (ds ++ gs)).all (· ≤ reachBytes) = true := hsz0
  have hval : ∀ (j : Nat) t v, Tryz.f7.params[j]? = some t → args[j]? = some v → Value.okWide Tryz.prog W .any base t v := hval0
  have hW' := hW
  obtain ⟨p, q, hA0, hV, rfl, hfz, hnd⟩ := hW
  have hA : DataW.TrodAll enc Tryz.prog W 0 (fun _ => true) true Tryz.f7.params.toList args.toList ds p := hA0
  rw [Tryz.params7] at hA hval hsz
  obtain ⟨v0, vs0, d0, ds0, p0, q0, hargs, rfl, rfl, h0, r0⟩ := trodAll_cons hA
  obtain ⟨v1, vs1, d1, ds1, p1, q1, rfl, rfl, rfl, h1, r1⟩ := trodAll_cons r0
  obtain ⟨v2, vs2, d2, ds2, p2, q2, rfl, rfl, rfl, h2, r2⟩ := trodAll_cons r1
  obtain ⟨rfl, rfl, rfl⟩ := trodAll_nil r2
  obtain rfl : args = #[v0, v1, v2] := by cases args; simp_all
  obtain ⟨rfl, rfl⟩ := trodVars_none hV
  obtain ⟨a0, rfl, rfl, rfl, y0⟩ := open_string Tryz.underlying9 (hval 0 9 v0 rfl rfl) h0
  have w0 : a0.size ≤ 140737488351232 := by
    have z := sized_string hsz (j := 0) (t := 9) rfl rfl
    rw [Array.length_toList] at z
    exact z
  obtain ⟨a1, rfl, rfl, rfl, y1⟩ := open_string Tryz.underlying9 (hval 1 9 v1 rfl rfl) h1
  have w1 : a1.size ≤ 140737488351232 := by
    have z := sized_string hsz (j := 1) (t := 9) rfl rfl
    rw [Array.length_toList] at z
    exact z
  obtain ⟨a2, rfl, rfl, rfl, w2⟩ := open_int Tryz.underlying3 (hval 2 3 v2 rfl rfl) h2
  clear hA0 hval0 hsz0 hsz
  obtain ⟨F, hF⟩ := Go.Vm.pure_conciergelaw09_JsonParts a0.data.toList a1.data.toList a2
  refine (Go.Vm.law_below (Go.Vm.c_conciergelaw09_JsonParts F) Tryz.func7 (by kernel_rfl) (by kernel_rfl) hF (ds := [.str a0.data.toList, .str a1.data.toList, .int .i64 a2]) rfl rfl (Go.Vm.own_sh (Go.Vm.rep_string a0) rfl (Go.Vm.own_sh (Go.Vm.rep_string a1) rfl (Go.Vm.own_sh (Go.Vm.rep_int .i64 a2 rfl) rfl Go.Vm.OwnL.nil))) (glOf hL)).mono fun e W' ⟨he, bel⟩ => ?_
  subst he
  exact ⟨_, rfl, _, _, _, [], _, [], hW', trodAll_mk1 (shut_bool Tryz.underlying4 _), (trodAll_cons_mk (shut_string Tryz.underlying9 y0) (trodAll_cons_mk (shut_string Tryz.underlying9 y1) (trodAll_cons_mk (shut_int Tryz.underlying3 w2) trodAll_mk0))), rfl, bel.frame _, fun h => by cases h⟩
theorem over : Rows.jsonPartsRow.holds Tryz.pinned (OpenSpec.ofChange Rows.jsonPartsSpec) :=
  OpenClaim.holds_of_wide 7 Tryz.f7 rfl rfl rfl rfl rfl rfl rfl ⟨rfl, rfl, rfl, rfl, rfl⟩ rfl rfl rfl rfl rfl (by kernel_rfl) Tryz.func7 (by kernel_rfl)
    (of_decide_eq_true (by kernel_rfl)) (by unfold Func.isWrapper; first | (rw [if_pos (by decide +kernel)]; kernel_rfl) | (rw [if_neg (by decide +kernel)]; exact ⟨rfl, rfl⟩))
    (fun os started H enc _ => lifted os started H enc)
theorem proved : Rows.JsonPartsCardSaid :=
  Claim7.holds_tied_plain_at .later [] [.data, .data, .data, .sentinel, .sentinel] true (true, "fa543199c6a26a7a220cdd5b843aff3ec23d0f77afecb1ddc74659f899c93908") true over (fun _ h => by cases h) (by kernel_rfl) (fun _ h => by cases h) Go.Proofs.YtgejjocbhonkjaaGreatDoor.jsonParts_row_tie rfl ⟨rfl, rfl⟩ (by kernel_rfl) rfl
    (fun f fn hf hfn => by
      obtain rfl : f = 7 := Option.some.inj ((show Tryz.prog.funcNamed "concierge/conciergelaw09.JsonParts" = some 7 by kernel_rfl).symm.trans hf) |>.symm
      obtain rfl : fn = Tryz.f7 := (Option.some.inj (Tryz.func7.symm.trans hfn)).symm
      exact ⟨by kernel_rfl, fun j t ht => by
        rw [Tryz.params7] at ht
        have hm : t ∈ [9, 3] := by simpa using Array.mem_of_getElem? ht
        have hall : ([9, 3].all fun u => !Tryz.prog.wantsStandIn u) = true := by kernel_rfl
        exact (show Tryz.prog.wantsStandIn t = false by simpa using List.all_eq_true.1 hall t hm)⟩)
    (by kernel_rfl)
end Go.Proofs.YtgejjocbhonkjaaGreatDoor.jsonParts
namespace Go.Proofs.YtgejjocbhonkjaaGreatDoor
/-- The card, under a short name, for the claim. -/
theorem jsonParts_holds : Rows.JsonPartsCardSaid := jsonParts.proved
#print axioms jsonParts_holds
end Go.Proofs.YtgejjocbhonkjaaGreatDoor
