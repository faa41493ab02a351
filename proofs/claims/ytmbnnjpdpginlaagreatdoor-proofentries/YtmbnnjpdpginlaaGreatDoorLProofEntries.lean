/- The law concierge/conciergelaw41.ProofEntries: for every input it answers true. No condition. -/
import Derived.Test.YtmbnnjpdpginlaaGreatDoorTie
import Derived.Test.YtmbnnjpdpginlaaGreatDoorCards
import Derived.Lay
import Derived.LaidLaws
import Derived.LaidOnce
import Derived.SevenTiedAt
import Derived.MakeChecks
import Derived.Handed
import Derived.Test.YtmbnnjpdpginlaaGreatDoorRows
import Derived.Test.YtmbnnjpdpginlaaGreatDoorFlaw41
import Derived.Test.YtmbnnjpdpginlaaGreatDoorPq2
import Derived.WalkKit
import Derived.ProofKit
import Derived.OpenShut
import Derived.ShutString
import Derived.ChangeOld
import Derived.Below
import Derived.SizedLaws
import Derived.SliceStrings
import Derived.WideKeyPair
namespace Go.Proofs.YtmbnnjpdpginlaaGreatDoor.proofEntries
open Go.ChangeShapes Go.WideShapes Go.ChangeAt Go.RowKit
open Go.ChangeMaps (open_string shut_string)
set_option linter.unusedVariables false
theorem own : ownKnob Tryz.prog.godebug = none := by kernel_rfl
theorem laidOut : laidOutB Tryz.prog = true := by kernel_rfl
theorem opened0 {H : Type} {enc : TypeId × Value → H} {W : World} {base : Nat} {sp : Nat → Bool} {held : Bool} : Go.Vm.Opens (Go.Vm.Spot W) Go.Vm.kt enc Tryz.prog W base sp held 22 [(.slc .en)] :=
  (Go.Vm.opens_slice (S := fun _ => True) .en Tryz.underlying22 (by kernel_rfl) rfl (by decide) (Go.Vm.opens_struct Tryz.underlying40 (by kernel_rfl) (Go.Vm.OpensF.cons (s := [(.int .i64)]) (s' := [.str, (.int .i64), (.int .i64), (.int .i64), (.int .i64), .str, (.int .i64), (.int .i64), (.int .i64), .str, .str, .str, .str]) rfl (by kernel_rfl) (Go.Vm.opens_int Tryz.underlying3 (by decide)) (Go.Vm.OpensF.cons (s := [.str]) (s' := [(.int .i64), (.int .i64), (.int .i64), (.int .i64), .str, (.int .i64), (.int .i64), (.int .i64), .str, .str, .str, .str]) rfl (by kernel_rfl) (Go.Vm.opens_str Tryz.underlying9) (Go.Vm.OpensF.cons (s := [(.int .i64)]) (s' := [(.int .i64), (.int .i64), (.int .i64), .str, (.int .i64), (.int .i64), (.int .i64), .str, .str, .str, .str]) rfl (by kernel_rfl) (Go.Vm.opens_int Tryz.underlying3 (by decide)) (Go.Vm.OpensF.cons (s := [(.int .i64)]) (s' := [(.int .i64), (.int .i64), .str, (.int .i64), (.int .i64), (.int .i64), .str, .str, .str, .str]) rfl (by kernel_rfl) (Go.Vm.opens_int Tryz.underlying3 (by decide)) (Go.Vm.OpensF.cons (s := [(.int .i64)]) (s' := [(.int .i64), .str, (.int .i64), (.int .i64), (.int .i64), .str, .str, .str, .str]) rfl (by kernel_rfl) (Go.Vm.opens_int Tryz.underlying3 (by decide)) (Go.Vm.OpensF.cons (s := [(.int .i64)]) (s' := [.str, (.int .i64), (.int .i64), (.int .i64), .str, .str, .str, .str]) rfl (by kernel_rfl) (Go.Vm.opens_int Tryz.underlying3 (by decide)) (Go.Vm.OpensF.cons (s := [.str]) (s' := [(.int .i64), (.int .i64), (.int .i64), .str, .str, .str, .str]) rfl (by kernel_rfl) (Go.Vm.opens_str Tryz.underlying9) (Go.Vm.OpensF.cons (s := [(.int .i64)]) (s' := [(.int .i64), (.int .i64), .str, .str, .str, .str]) rfl (by kernel_rfl) (Go.Vm.opens_int Tryz.underlying3 (by decide)) (Go.Vm.OpensF.cons (s := [(.int .i64)]) (s' := [(.int .i64), .str, .str, .str, .str]) rfl (by kernel_rfl) (Go.Vm.opens_int Tryz.underlying3 (by decide)) (Go.Vm.OpensF.cons (s := [(.int .i64)]) (s' := [.str, .str, .str, .str]) rfl (by kernel_rfl) (Go.Vm.opens_int Tryz.underlying3 (by decide)) (Go.Vm.OpensF.cons (s := [.str]) (s' := [.str, .str, .str]) rfl (by kernel_rfl) (Go.Vm.opens_str Tryz.underlying9) (Go.Vm.OpensF.cons (s := [.str]) (s' := [.str, .str]) rfl (by kernel_rfl) (Go.Vm.opens_str Tryz.underlying9) (Go.Vm.OpensF.cons (s := [.str]) (s' := [.str]) rfl (by kernel_rfl) (Go.Vm.opens_str Tryz.underlying9) (Go.Vm.OpensF.cons (s := [.str]) (s' := []) rfl (by kernel_rfl) (Go.Vm.opens_str Tryz.underlying9) (Go.Vm.OpensF.nil _)))))))))))))))) (fun x => x) (fun x => rfl) (fun _ _ _ => trivial))
def laid : List (String × DataW Unit) := [("unicode/utf8.acceptRanges", Rows.laid_unicode_utf8_acceptRanges), ("unicode/utf8.first", Rows.laid_unicode_utf8_first)]
set_option maxHeartbeats 2000000 in
set_option maxRecDepth 100000 in
theorem lifted (os : Os) (started : os.Started) (H : Type) (enc : TypeId × Value → H) :
    ReturnsInHanded {} Tryz.checked os 5 .any (fun w args => (Rows.proofEntriesSpec.pre enc Tryz.prog Tryz.f5 [] false w args ∧ laidMetH Tryz.prog laid w) ∧ sizedMet enc Tryz.prog Tryz.f5 (OpenSpec.ofChange Rows.proofEntriesSpec) false w args) (Rows.proofEntriesSpec.post enc Tryz.prog Tryz.f5 false true false false) := by
  refine returnsInHanded_of_change_and (C := Tryz.checked) (X := fun w _ => laidMetH Tryz.prog laid w) (fun _ _ _ hh h => h.of_heap hh) own started (by kernel_rfl) Tryz.func5
    (ChangeSpec.witness_shaped (enc := enc) (C := Tryz.checked) (os := os) (X := fun w _ => laidMetH Tryz.prog laid w) false (World.laidAll Tryz.prog os laid) #[.slice none 0 0, .int .i64 0, .string ByteArray.empty] 8 (World.laidAll_os _ _ _)
      (World.shaped_of_ZipB (by kernel_rfl) (by kernel_rfl)) (by kernel_rfl) (by kernel_rfl) (by kernel_rfl)
      (by rw [MakeChecks.laidMetH_plain _ _ _ (by kernel_rfl)]; exact laidMet_laidAll _ (by kernel_rfl) (by kernel_rfl))) ?_
  intro W base args ds gs before hval0 hW hcnd hsz0 hL _
  have hsz : (DataW.weightsEach Tryz.prog (Tryz.f5.params.toList ++ Rows.proofEntriesSpec.plain.varTypes Tryz.prog) (ds ++ gs)).all (· ≤ reachBytes) = true := hsz0
  have hval : ∀ (j : Nat) t v, Tryz.f5.params[j]? = some t → args[j]? = some v → Value.okWide Tryz.prog W .any base t v := hval0
  have hW' := hW
  obtain ⟨p, q, hA0, hV, rfl, hfz, hnd⟩ := hW
  have hA : DataW.TrodAll enc Tryz.prog W 0 (fun _ => true) true Tryz.f5.params.toList args.toList ds p := hA0
  rw [Tryz.params5] at hA hval hsz
  obtain ⟨v0, vs0, d0, ds0, p0, q0, hargs, rfl, rfl, h0, r0⟩ := trodAll_cons hA
  obtain ⟨v1, vs1, d1, ds1, p1, q1, rfl, rfl, rfl, h1, r1⟩ := trodAll_cons r0
  obtain ⟨v2, vs2, d2, ds2, p2, q2, rfl, rfl, rfl, h2, r2⟩ := trodAll_cons r1
  obtain ⟨rfl, rfl, rfl⟩ := trodAll_nil r2
  obtain rfl : args = #[v0, v1, v2] := by cases args; simp_all
  obtain ⟨rfl, rfl⟩ := trodVars_none hV
  obtain ⟨b0, len0, cap0, rfl⟩ := okWide_slice Tryz.underlying22 (hval 0 22 v0 rfl rfl)
  have k0 := h0
  have lt0 : ∀ x ∈ p0, x.block < W.heap.size := by obtain ⟨m, hm⟩ := k0; exact DataW.trod_lt m _ _ _ hm
  obtain ⟨x0, rr0⟩ := Go.Vm.open_val opened0 (hval 0 22 _ rfl rfl) h0
  obtain ⟨a0_0, ⟨⟩⟩ := x0
  obtain ⟨a1, rfl, rfl, rfl, w1⟩ := open_int Tryz.underlying3 (hval 1 3 v1 rfl rfl) h1
  obtain ⟨a2, rfl, rfl, rfl, y2⟩ := open_string Tryz.underlying9 (hval 2 9 v2 rfl rfl) h2
  have w2 : a2.size ≤ 140737488351232 := by
    have z := sized_string hsz (j := 2) (t := 9) rfl rfl
    rw [Array.length_toList] at z
    exact z
  clear hA0 hval0 hsz0 hsz
  obtain ⟨F, hF⟩ := Go.Vm.pure_conciergelaw41_ProofEntries a0_0 a1 a2.data.toList
  refine (Go.Vm.law_below (Go.Vm.c_conciergelaw41_ProofEntries F) Tryz.func5 (by kernel_rfl) (by kernel_rfl) hF (ds := [.slc .en a0_0, .int .i64 a1, .str a2.data.toList]) rfl rfl (Go.Vm.own_sh (Go.Vm.rep_one rr0) rfl (Go.Vm.own_sh (Go.Vm.rep_int .i64 a1 rfl) rfl (Go.Vm.own_sh (Go.Vm.rep_string a2) rfl Go.Vm.OwnL.nil)))).mono fun e W' ⟨he, bel⟩ => ?_
  subst he
  exact ⟨_, rfl, _, _, _, [], _, [], hW', trodAll_mk1 (shut_bool Tryz.underlying4 _), (trodAll_cons_mk (Below.trod laidOut (by kernel_rfl) (of_decide_eq_true (by kernel_rfl)) k0 bel lt0) (trodAll_cons_mk (shut_int Tryz.underlying3 w1) (trodAll_cons_mk (shut_string Tryz.underlying9 y2) trodAll_mk0))), rfl, bel.frame _, fun h => by cases h⟩
theorem over : Rows.proofEntriesRow.holds Tryz.pinned (OpenSpec.ofChange Rows.proofEntriesSpec) :=
  OpenClaim.holds_of_wide 5 Tryz.f5 rfl rfl rfl rfl rfl rfl rfl ⟨rfl, rfl, rfl, rfl, rfl⟩ rfl rfl rfl rfl rfl (by kernel_rfl) Tryz.func5 (by kernel_rfl)
    (of_decide_eq_true (by kernel_rfl)) (by unfold Func.isWrapper; first | (rw [if_pos (by decide +kernel)]; kernel_rfl) | (rw [if_neg (by decide +kernel)]; exact ⟨rfl, rfl⟩))
    (fun os started H enc _ => lifted os started H enc)
theorem proved : Rows.ProofEntriesCardSaid :=
  Claim7.holds_tied_plain_at .later [] [.data, .pinned] true (true, "fa174c21a7dc904136144d597b053306c16608c3c54aee205863597c91b40dff") false over (fun _ h => by cases h) (by kernel_rfl) (fun _ h => by cases h) Go.Proofs.YtmbnnjpdpginlaaGreatDoor.proofEntries_row_tie rfl ⟨rfl, rfl⟩ (by kernel_rfl) rfl
    (fun f fn hf hfn => by
      obtain rfl : f = 5 := Option.some.inj ((show Tryz.prog.funcNamed "concierge/conciergelaw41.ProofEntries" = some 5 by kernel_rfl).symm.trans hf) |>.symm
      obtain rfl : fn = Tryz.f5 := (Option.some.inj (Tryz.func5.symm.trans hfn)).symm
      exact ⟨by kernel_rfl, fun j t ht => by
        rw [Tryz.params5] at ht
        have hm : t ∈ [22, 3, 9] := by simpa using Array.mem_of_getElem? ht
        have hall : ([22, 3, 9].all fun u => !Tryz.prog.wantsStandIn u) = true := by kernel_rfl
        exact (show Tryz.prog.wantsStandIn t = false by simpa using List.all_eq_true.1 hall t hm)⟩)
    (by kernel_rfl)
end Go.Proofs.YtmbnnjpdpginlaaGreatDoor.proofEntries
namespace Go.Proofs.YtmbnnjpdpginlaaGreatDoor
/-- The card, under a short name, for the claim. -/
theorem proofEntries_holds : Rows.ProofEntriesCardSaid := proofEntries.proved
#print axioms proofEntries_holds
end Go.Proofs.YtmbnnjpdpginlaaGreatDoor
