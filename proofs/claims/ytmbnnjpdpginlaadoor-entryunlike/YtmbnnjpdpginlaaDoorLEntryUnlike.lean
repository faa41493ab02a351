/- The law concierge/conciergelaw14.EntryUnlike: for every input it answers true. No condition. -/
import Derived.Test.YtmbnnjpdpginlaaDoorTie
import Derived.Test.YtmbnnjpdpginlaaDoorCards
import Derived.Lay
import Derived.LaidLaws
import Derived.LaidOnce
import Derived.SevenTiedAt
import Derived.MakeChecks
import Derived.Handed
import Derived.Test.YtmbnnjpdpginlaaDoorRows
import Derived.Test.YtmbnnjpdpginlaaDoorFlaw14
import Derived.Test.YtmbnnjpdpginlaaDoorPe9
import Derived.WalkKit
import Derived.ProofKit
import Derived.OpenShut
import Derived.ShutString
import Derived.ChangeOld
import Derived.Below
import Derived.SizedLaws
import Derived.SliceStrings
import Derived.WideKeyPair
namespace Go.Proofs.YtmbnnjpdpginlaaDoor.entryUnlike
open Go.ChangeShapes Go.WideShapes Go.ChangeAt Go.RowKit
open Go.ChangeMaps (open_string shut_string)
set_option linter.unusedVariables false
theorem own : ownKnob Tryd.prog.godebug = none := by kernel_rfl
theorem laidOut : laidOutB Tryd.prog = true := by kernel_rfl
theorem opened1 {H : Type} {enc : TypeId × Value → H} {W : World} {base : Nat} {sp : Nat → Bool} {held : Bool} : Go.Vm.Opens (Go.Vm.Spot W) Go.Vm.kt enc Tryd.prog W base sp held 23 [(.int .i64), .str, (.int .i64), (.int .i64), (.int .i64), (.int .i64), .str, (.int .i64), (.int .i64), (.int .i64), .str, .str, .str, .str] :=
  (Go.Vm.opens_struct Tryd.underlying23 (by kernel_rfl) (Go.Vm.OpensF.cons (s := [(.int .i64)]) (s' := [.str, (.int .i64), (.int .i64), (.int .i64), (.int .i64), .str, (.int .i64), (.int .i64), (.int .i64), .str, .str, .str, .str]) rfl (by kernel_rfl) (Go.Vm.opens_int Tryd.underlying3 (by decide)) (Go.Vm.OpensF.cons (s := [.str]) (s' := [(.int .i64), (.int .i64), (.int .i64), (.int .i64), .str, (.int .i64), (.int .i64), (.int .i64), .str, .str, .str, .str]) rfl (by kernel_rfl) (Go.Vm.opens_str Tryd.underlying9) (Go.Vm.OpensF.cons (s := [(.int .i64)]) (s' := [(.int .i64), (.int .i64), (.int .i64), .str, (.int .i64), (.int .i64), (.int .i64), .str, .str, .str, .str]) rfl (by kernel_rfl) (Go.Vm.opens_int Tryd.underlying3 (by decide)) (Go.Vm.OpensF.cons (s := [(.int .i64)]) (s' := [(.int .i64), (.int .i64), .str, (.int .i64), (.int .i64), (.int .i64), .str, .str, .str, .str]) rfl (by kernel_rfl) (Go.Vm.opens_int Tryd.underlying3 (by decide)) (Go.Vm.OpensF.cons (s := [(.int .i64)]) (s' := [(.int .i64), .str, (.int .i64), (.int .i64), (.int .i64), .str, .str, .str, .str]) rfl (by kernel_rfl) (Go.Vm.opens_int Tryd.underlying3 (by decide)) (Go.Vm.OpensF.cons (s := [(.int .i64)]) (s' := [.str, (.int .i64), (.int .i64), (.int .i64), .str, .str, .str, .str]) rfl (by kernel_rfl) (Go.Vm.opens_int Tryd.underlying3 (by decide)) (Go.Vm.OpensF.cons (s := [.str]) (s' := [(.int .i64), (.int .i64), (.int .i64), .str, .str, .str, .str]) rfl (by kernel_rfl) (Go.Vm.opens_str Tryd.underlying9) (Go.Vm.OpensF.cons (s := [(.int .i64)]) (s' := [(.int .i64), (.int .i64), .str, .str, .str, .str]) rfl (by kernel_rfl) (Go.Vm.opens_int Tryd.underlying3 (by decide)) (Go.Vm.OpensF.cons (s := [(.int .i64)]) (s' := [(.int .i64), .str, .str, .str, .str]) rfl (by kernel_rfl) (Go.Vm.opens_int Tryd.underlying3 (by decide)) (Go.Vm.OpensF.cons (s := [(.int .i64)]) (s' := [.str, .str, .str, .str]) rfl (by kernel_rfl) (Go.Vm.opens_int Tryd.underlying3 (by decide)) (Go.Vm.OpensF.cons (s := [.str]) (s' := [.str, .str, .str]) rfl (by kernel_rfl) (Go.Vm.opens_str Tryd.underlying9) (Go.Vm.OpensF.cons (s := [.str]) (s' := [.str, .str]) rfl (by kernel_rfl) (Go.Vm.opens_str Tryd.underlying9) (Go.Vm.OpensF.cons (s := [.str]) (s' := [.str]) rfl (by kernel_rfl) (Go.Vm.opens_str Tryd.underlying9) (Go.Vm.OpensF.cons (s := [.str]) (s' := []) rfl (by kernel_rfl) (Go.Vm.opens_str Tryd.underlying9) (Go.Vm.OpensF.nil _))))))))))))))))
theorem opened0 {H : Type} {enc : TypeId × Value → H} {W : World} {base : Nat} {sp : Nat → Bool} {held : Bool} : Go.Vm.Opens (Go.Vm.Spot W) Go.Vm.kt enc Tryd.prog W base sp held 23 [(.int .i64), .str, (.int .i64), (.int .i64), (.int .i64), (.int .i64), .str, (.int .i64), (.int .i64), (.int .i64), .str, .str, .str, .str] :=
  (Go.Vm.opens_struct Tryd.underlying23 (by kernel_rfl) (Go.Vm.OpensF.cons (s := [(.int .i64)]) (s' := [.str, (.int .i64), (.int .i64), (.int .i64), (.int .i64), .str, (.int .i64), (.int .i64), (.int .i64), .str, .str, .str, .str]) rfl (by kernel_rfl) (Go.Vm.opens_int Tryd.underlying3 (by decide)) (Go.Vm.OpensF.cons (s := [.str]) (s' := [(.int .i64), (.int .i64), (.int .i64), (.int .i64), .str, (.int .i64), (.int .i64), (.int .i64), .str, .str, .str, .str]) rfl (by kernel_rfl) (Go.Vm.opens_str Tryd.underlying9) (Go.Vm.OpensF.cons (s := [(.int .i64)]) (s' := [(.int .i64), (.int .i64), (.int .i64), .str, (.int .i64), (.int .i64), (.int .i64), .str, .str, .str, .str]) rfl (by kernel_rfl) (Go.Vm.opens_int Tryd.underlying3 (by decide)) (Go.Vm.OpensF.cons (s := [(.int .i64)]) (s' := [(.int .i64), (.int .i64), .str, (.int .i64), (.int .i64), (.int .i64), .str, .str, .str, .str]) rfl (by kernel_rfl) (Go.Vm.opens_int Tryd.underlying3 (by decide)) (Go.Vm.OpensF.cons (s := [(.int .i64)]) (s' := [(.int .i64), .str, (.int .i64), (.int .i64), (.int .i64), .str, .str, .str, .str]) rfl (by kernel_rfl) (Go.Vm.opens_int Tryd.underlying3 (by decide)) (Go.Vm.OpensF.cons (s := [(.int .i64)]) (s' := [.str, (.int .i64), (.int .i64), (.int .i64), .str, .str, .str, .str]) rfl (by kernel_rfl) (Go.Vm.opens_int Tryd.underlying3 (by decide)) (Go.Vm.OpensF.cons (s := [.str]) (s' := [(.int .i64), (.int .i64), (.int .i64), .str, .str, .str, .str]) rfl (by kernel_rfl) (Go.Vm.opens_str Tryd.underlying9) (Go.Vm.OpensF.cons (s := [(.int .i64)]) (s' := [(.int .i64), (.int .i64), .str, .str, .str, .str]) rfl (by kernel_rfl) (Go.Vm.opens_int Tryd.underlying3 (by decide)) (Go.Vm.OpensF.cons (s := [(.int .i64)]) (s' := [(.int .i64), .str, .str, .str, .str]) rfl (by kernel_rfl) (Go.Vm.opens_int Tryd.underlying3 (by decide)) (Go.Vm.OpensF.cons (s := [(.int .i64)]) (s' := [.str, .str, .str, .str]) rfl (by kernel_rfl) (Go.Vm.opens_int Tryd.underlying3 (by decide)) (Go.Vm.OpensF.cons (s := [.str]) (s' := [.str, .str, .str]) rfl (by kernel_rfl) (Go.Vm.opens_str Tryd.underlying9) (Go.Vm.OpensF.cons (s := [.str]) (s' := [.str, .str]) rfl (by kernel_rfl) (Go.Vm.opens_str Tryd.underlying9) (Go.Vm.OpensF.cons (s := [.str]) (s' := [.str]) rfl (by kernel_rfl) (Go.Vm.opens_str Tryd.underlying9) (Go.Vm.OpensF.cons (s := [.str]) (s' := []) rfl (by kernel_rfl) (Go.Vm.opens_str Tryd.underlying9) (Go.Vm.OpensF.nil _))))))))))))))))
def laid : List (String × DataW Unit) := [("unicode/utf8.acceptRanges", Rows.laid_unicode_utf8_acceptRanges), ("unicode/utf8.first", Rows.laid_unicode_utf8_first)]
set_option maxHeartbeats 2000000 in
set_option maxRecDepth 100000 in
theorem lifted (os : Os) (started : os.Started) (H : Type) (enc : TypeId × Value → H) :
    ReturnsInHanded {} Tryd.checked os 5 .any (fun w args => (Rows.entryUnlikeSpec.pre enc Tryd.prog Tryd.f5 [] false w args ∧ laidMetH Tryd.prog laid w) ∧ sizedMet enc Tryd.prog Tryd.f5 (OpenSpec.ofChange Rows.entryUnlikeSpec) false w args) (Rows.entryUnlikeSpec.post enc Tryd.prog Tryd.f5 false true false false) := by
  refine returnsInHanded_of_change_and (C := Tryd.checked) (X := fun w _ => laidMetH Tryd.prog laid w) (fun _ _ _ hh h => h.of_heap hh) own started (by kernel_rfl) Tryd.func5
    (ChangeSpec.witness_shaped (enc := enc) (C := Tryd.checked) (os := os) (X := fun w _ => laidMetH Tryd.prog laid w) false (World.laidAll Tryd.prog os laid) #[.agg #[.int .i64 0, .string ByteArray.empty, .int .i64 0, .int .i64 0, .int .i64 0, .int .i64 0, .string ByteArray.empty, .int .i64 0, .int .i64 0, .int .i64 0, .string ByteArray.empty, .string ByteArray.empty, .string ByteArray.empty, .string ByteArray.empty], .agg #[.int .i64 0, .string ByteArray.empty, .int .i64 0, .int .i64 0, .int .i64 0, .int .i64 0, .string ByteArray.empty, .int .i64 0, .int .i64 0, .int .i64 0, .string ByteArray.empty, .string ByteArray.empty, .string ByteArray.empty, .string ByteArray.empty]] 8 (World.laidAll_os _ _ _)
      (World.shaped_of_ZipB (by kernel_rfl) (by kernel_rfl)) (by kernel_rfl) (by kernel_rfl) (by kernel_rfl)
      (by rw [MakeChecks.laidMetH_plain _ _ _ (by kernel_rfl)]; exact laidMet_laidAll _ (by kernel_rfl) (by kernel_rfl))) ?_
  intro W base args ds gs before hval0 hW hcnd hsz0 hL _
  have hsz : (DataW.weightsEach Tryd.prog (Tryd.f5.params.toList ++ Rows.entryUnlikeSpec.plain.varTypes Tryd.prog) (ds ++ gs)).all (· ≤ reachBytes) = true := hsz0
  have hval : ∀ (j : Nat) t v, Tryd.f5.params[j]? = some t → args[j]? = some v → Value.okWide Tryd.prog W .any base t v := hval0
  have hW' := hW
  obtain ⟨p, q, hA0, hV, rfl, hfz, hnd⟩ := hW
  have hA : DataW.TrodAll enc Tryd.prog W 0 (fun _ => true) true Tryd.f5.params.toList args.toList ds p := hA0
  rw [Tryd.params5] at hA hval hsz
  obtain ⟨v0, vs0, d0, ds0, p0, q0, hargs, rfl, rfl, h0, r0⟩ := trodAll_cons hA
  obtain ⟨v1, vs1, d1, ds1, p1, q1, rfl, rfl, rfl, h1, r1⟩ := trodAll_cons r0
  obtain ⟨rfl, rfl, rfl⟩ := trodAll_nil r1
  obtain rfl : args = #[v0, v1] := by cases args; simp_all
  obtain ⟨rfl, rfl⟩ := trodVars_none hV
  obtain ⟨cs0, rfl, hz0⟩ := okWide_struct Tryd.underlying23 (hval 0 23 v0 rfl rfl)
  have k0 := h0
  have lt0 : ∀ x ∈ p0, x.block < W.heap.size := by obtain ⟨m, hm⟩ := k0; exact DataW.trod_lt m _ _ _ hm
  obtain ⟨x0, r0⟩ := Go.Vm.open_val opened0 (hval 0 23 _ rfl rfl) h0
  obtain ⟨a0_0, a0_1, a0_2, a0_3, a0_4, a0_5, a0_6, a0_7, a0_8, a0_9, a0_10, a0_11, a0_12, a0_13, ⟨⟩⟩ := x0
  obtain ⟨cs1, rfl, hz1⟩ := okWide_struct Tryd.underlying23 (hval 1 23 v1 rfl rfl)
  have k1 := h1
  have lt1 : ∀ x ∈ p1, x.block < W.heap.size := by obtain ⟨m, hm⟩ := k1; exact DataW.trod_lt m _ _ _ hm
  obtain ⟨x1, r1⟩ := Go.Vm.open_val opened1 (hval 1 23 _ rfl rfl) h1
  obtain ⟨a1_0, a1_1, a1_2, a1_3, a1_4, a1_5, a1_6, a1_7, a1_8, a1_9, a1_10, a1_11, a1_12, a1_13, ⟨⟩⟩ := x1
  clear hA0 hval0 hsz0 hsz
  obtain ⟨F, hF⟩ := Go.Vm.pure_conciergelaw14_EntryUnlike (a0_0, a0_1, a0_2, a0_3, a0_4, a0_5, a0_6, a0_7, a0_8, a0_9, a0_10, a0_11, a0_12, a0_13, ()) (a1_0, a1_1, a1_2, a1_3, a1_4, a1_5, a1_6, a1_7, a1_8, a1_9, a1_10, a1_11, a1_12, a1_13, ())
  refine (Go.Vm.law_below (Go.Vm.c_conciergelaw14_EntryUnlike F) Tryd.func5 (by kernel_rfl) (by kernel_rfl) hF (ds := [.agg (Go.Vm.absL [(.int .i64), .str, (.int .i64), (.int .i64), (.int .i64), (.int .i64), .str, (.int .i64), (.int .i64), (.int .i64), .str, .str, .str, .str] (a0_0, a0_1, a0_2, a0_3, a0_4, a0_5, a0_6, a0_7, a0_8, a0_9, a0_10, a0_11, a0_12, a0_13, ())), .agg (Go.Vm.absL [(.int .i64), .str, (.int .i64), (.int .i64), (.int .i64), (.int .i64), .str, (.int .i64), (.int .i64), (.int .i64), .str, .str, .str, .str] (a1_0, a1_1, a1_2, a1_3, a1_4, a1_5, a1_6, a1_7, a1_8, a1_9, a1_10, a1_11, a1_12, a1_13, ()))]) rfl rfl (Go.Vm.own_sh (Go.Vm.rep_agg' r0) rfl (Go.Vm.own_sh (Go.Vm.rep_agg' r1) rfl Go.Vm.OwnL.nil))).mono fun e W' ⟨he, bel⟩ => ?_
  subst he
  exact ⟨_, rfl, _, _, _, [], _, [], hW', trodAll_mk1 (shut_bool Tryd.underlying4 _), (trodAll_cons_mk (Below.trod laidOut (by kernel_rfl) (of_decide_eq_true (by kernel_rfl)) k0 bel lt0) (trodAll_cons_mk (Below.trod laidOut (by kernel_rfl) (of_decide_eq_true (by kernel_rfl)) k1 bel lt1) trodAll_mk0)), rfl, bel.frame _, fun h => by cases h⟩
theorem over : Rows.entryUnlikeRow.holds Tryd.pinned (OpenSpec.ofChange Rows.entryUnlikeSpec) :=
  OpenClaim.holds_of_wide 5 Tryd.f5 rfl rfl rfl rfl rfl rfl rfl ⟨rfl, rfl, rfl, rfl, rfl⟩ rfl rfl rfl rfl rfl (by kernel_rfl) Tryd.func5 (by kernel_rfl)
    (of_decide_eq_true (by kernel_rfl)) (by unfold Func.isWrapper; first | (rw [if_pos (by decide +kernel)]; kernel_rfl) | (rw [if_neg (by decide +kernel)]; exact ⟨rfl, rfl⟩))
    (fun os started H enc _ => lifted os started H enc)
theorem proved : Rows.EntryUnlikeCardSaid :=
  Claim7.holds_tied_plain_at .later [] [.data, .pinned] true (true, "e9b8d7dde7570cbc4549e2336805e02f7c11f061f8cd63747b29774c3ce1921d") false over (fun _ h => by cases h) (by kernel_rfl) (fun _ h => by cases h) Go.Proofs.YtmbnnjpdpginlaaDoor.entryUnlike_row_tie rfl ⟨rfl, rfl⟩ (by kernel_rfl) rfl
    (fun f fn hf hfn => by
      obtain rfl : f = 5 := Option.some.inj ((show Tryd.prog.funcNamed "concierge/conciergelaw14.EntryUnlike" = some 5 by kernel_rfl).symm.trans hf) |>.symm
      obtain rfl : fn = Tryd.f5 := (Option.some.inj (Tryd.func5.symm.trans hfn)).symm
      exact ⟨by kernel_rfl, fun j t ht => by
        rw [Tryd.params5] at ht
        have hm : t ∈ [23] := by simpa using Array.mem_of_getElem? ht
        have hall : ([23].all fun u => !Tryd.prog.wantsStandIn u) = true := by kernel_rfl
        exact (show Tryd.prog.wantsStandIn t = false by simpa using List.all_eq_true.1 hall t hm)⟩)
    (by kernel_rfl)
end Go.Proofs.YtmbnnjpdpginlaaDoor.entryUnlike
namespace Go.Proofs.YtmbnnjpdpginlaaDoor
/-- The card, under a short name, for the claim. -/
theorem entryUnlike_holds : Rows.EntryUnlikeCardSaid := entryUnlike.proved
#print axioms entryUnlike_holds
end Go.Proofs.YtmbnnjpdpginlaaDoor
