/- The law concierge/conciergelaw42.PageTurned: for every input it answers true. No condition. -/
import Derived.Test.YtgeafoacmnlioaaDoorLFPageTurned
import Derived.Test.YtgeafoacmnlioaaDoorTie
import Derived.Test.YtgeafoacmnlioaaDoorCards
import Derived.Lay
import Derived.LaidLaws
import Derived.LaidOnce
import Derived.SevenTiedAt
import Derived.MakeChecks
import Derived.Handed
import Derived.Test.YtgeafoacmnlioaaDoorFhshp
import Derived.Test.YtgeafoacmnlioaaDoorRows
import Derived.Test.YtgeafoacmnlioaaDoorFlaw42
import Derived.Test.YtgeafoacmnlioaaDoorPpg5
import Derived.WalkKit
import Derived.ProofKit
import Derived.OpenShut
import Derived.ShutString
import Derived.ChangeOld
import Derived.Below
import Derived.SizedLaws
import Derived.SliceStrings
import Derived.WideKeyPair
namespace Go.Proofs.YtgeafoacmnlioaaDoor.pageTurned
open Go.ChangeShapes Go.WideShapes Go.ChangeAt Go.RowKit
open Go.ChangeMaps (open_string shut_string)
set_option linter.unusedVariables false
theorem own : ownKnob Tryd.prog.godebug = none := by kernel_rfl
theorem wf8 {a : Int} (h : (Lit.int .u8 a).wf = true) : 0 ≤ a ∧ a ≤ 255 := by
  simp [Lit.wf, IntKind.min, IntKind.max, IntKind.bits, IntKind.signed] at h
  omega
theorem rep_pair8 {kt : Go.Vm.KT} {w : World} {Y : Nat → Prop} {a b : Int} (ha : (Lit.int .u8 a).wf = true) (hb : (Lit.int .u8 b).wf = true) : Go.Vm.Rep (Go.Vm.tabOf kt) w Y (.arr 2 .u8 [UInt8.ofNat a.toNat, UInt8.ofNat b.toNat]) (.agg #[.int .u8 a, .int .u8 b]) := by
  have h1 := wf8 ha
  have h2 := wf8 hb
  have e : ∀ x : Int, 0 ≤ x ∧ x ≤ 255 → (((UInt8.ofNat x.toNat).toNat : Nat) : Int) = x := fun x hx => by simp; omega
  refine .arr rfl rfl (.agg rfl fun i hi hi' => ?_)
  have : i = 0 ∨ i = 1 := by simp at hi'; omega
  rcases this with rfl | rfl
  · have : Go.Vm.Rep (Go.Vm.tabOf kt) w Y (.int .u8 (((UInt8.ofNat a.toNat).toNat : Nat) : Int)) (.int .u8 a) := by rw [e a h1]; exact .int (by simp [Go.Vm.okInt, h1])
    exact this
  · have : Go.Vm.Rep (Go.Vm.tabOf kt) w Y (.int .u8 (((UInt8.ofNat b.toNat).toNat : Nat) : Int)) (.int .u8 b) := by rw [e b h2]; exact .int (by simp [Go.Vm.okInt, h2])
    exact this
theorem arr2 : Go.WideMaps.ArrKey Tryd.prog 33 5 2 := ⟨Tryd.underlying33, by kernel_rfl, by kernel_rfl, by kernel_rfl⟩
def laid : List (String × DataW Unit) := [("unicode/utf8.acceptRanges", Rows.laid_unicode_utf8_acceptRanges), ("unicode/utf8.first", Rows.laid_unicode_utf8_first)]
set_option maxRecDepth 100000 in
theorem glOf {w : World} (h0 : laidMetH Tryd.prog laid w) (hS : w.ShapedOpen Tryd.prog) : Go.Vm.kt.gl w := by
  have h : laidMet Tryd.prog laid w := by rw [← MakeChecks.laidMetH_plain _ _ _ (by kernel_rfl)]; exact h0
  have u0 := Go.Vm.utf8_of_laid (ρ := Go.Vm.Trm.r_ren) ({ Go.Vm.Trm.r_lays with } : U8Types Tryd.prog Go.Vm.Trm.r_ren) ⟨by kernel_rfl, by kernel_rfl, by kernel_rfl, by kernel_rfl, by kernel_rfl, by kernel_rfl, by kernel_rfl⟩ h (List.mem_of_getElem? (i := 1) (by kernel_rfl)) (List.mem_of_getElem? (i := 0) (by kernel_rfl))
  have i0 := Go.Proofs.cell_of_shapedOpen_int (g := 0) hS (of_decide_eq_true (by kernel_rfl)) (zero := #[.int .i64 0]) (t := 3) (by kernel_rfl) rfl (by kernel_rfl) (by kernel_rfl) Tryd.underlying3
  refine ⟨(Go.Vm.utf8_sz1 u0), fun x hx => ?_, fun g hg => ?_, ⟨u0, fun g hg => by simp only [List.mem_cons, List.not_mem_nil, or_false] at hg; rcases hg with rfl <;> first | exact i0⟩⟩
  · simp at hx
  · simp at hg
set_option maxHeartbeats 2000000 in
set_option maxRecDepth 100000 in
theorem lifted (os : Os) (started : os.Started) (H : Type) (enc : TypeId × Value → H) :
    ReturnsInHanded {} Tryd.checked os 4 .any (fun w args => (Rows.pageTurnedSpec.pre enc Tryd.prog Tryd.f4 [] false w args ∧ laidMetH Tryd.prog laid w) ∧ sizedMet enc Tryd.prog Tryd.f4 (OpenSpec.ofChange Rows.pageTurnedSpec) false w args) (Rows.pageTurnedSpec.post enc Tryd.prog Tryd.f4 false true false false) := by
  refine Go.Vm.handed_shaped (C := Tryd.checked) (X := fun w _ => laidMetH Tryd.prog laid w) (fun _ _ _ hh h => h.of_heap hh) own started (by kernel_rfl) Tryd.func4
    (ChangeSpec.witness_shaped (enc := enc) (C := Tryd.checked) (os := os) (X := fun w _ => laidMetH Tryd.prog laid w) false (World.laidAll Tryd.prog os laid) #[.int .i64 0, .string ByteArray.empty, .agg #[.int .u8 0, .int .u8 0]] 8 (World.laidAll_os _ _ _)
      (World.shaped_of_ZipB (by kernel_rfl) (by kernel_rfl)) (by kernel_rfl) (by kernel_rfl) (by kernel_rfl)
      (by rw [MakeChecks.laidMetH_plain _ _ _ (by kernel_rfl)]; exact laidMet_laidAll _ (by kernel_rfl) (by kernel_rfl))) ?_
  intro W base args ds gs before hval0 hW hcnd hsz0 hL hS _
  have hsz : (DataW.weightsEach Tryd.prog (Tryd.f4.params.toList ++ Rows.pageTurnedSpec.plain.varTypes Tryd.prog) (ds ++ gs)).all (· ≤ reachBytes) = true := hsz0
  have hval : ∀ (j : Nat) t v, Tryd.f4.params[j]? = some t → args[j]? = some v → Value.okWide Tryd.prog W .any base t v := hval0
  have hW' := hW
  obtain ⟨p, q, hA0, hV, rfl, hfz, hnd⟩ := hW
  have hA : DataW.TrodAll enc Tryd.prog W 0 (fun _ => true) true Tryd.f4.params.toList args.toList ds p := hA0
  rw [Tryd.params4] at hA hval hsz
  obtain ⟨v0, vs0, d0, ds0, p0, q0, hargs, rfl, rfl, h0, r0⟩ := trodAll_cons hA
  obtain ⟨v1, vs1, d1, ds1, p1, q1, rfl, rfl, rfl, h1, r1⟩ := trodAll_cons r0
  obtain ⟨v2, vs2, d2, ds2, p2, q2, rfl, rfl, rfl, h2, r2⟩ := trodAll_cons r1
  obtain ⟨rfl, rfl, rfl⟩ := trodAll_nil r2
  obtain rfl : args = #[v0, v1, v2] := by cases args; simp_all
  obtain ⟨rfl, rfl⟩ := trodVars_none hV
  obtain ⟨a0, rfl, rfl, rfl, w0⟩ := open_int Tryd.underlying3 (hval 0 3 v0 rfl rfl) h0
  obtain ⟨a1, rfl, rfl, rfl, y1⟩ := open_string Tryd.underlying9 (hval 1 9 v1 rfl rfl) h1
  have w1 : a1.size ≤ 140737488351232 := by
    have z := sized_string hsz (j := 1) (t := 9) rfl rfl
    rw [Array.length_toList] at z
    exact z
  obtain ⟨a2, b2, rfl, rfl, rfl, w2, x2⟩ := Go.WideMaps.open_pair arr2 Tryd.underlying5 (hval 2 33 v2 rfl rfl) h2
  clear hA0 hval0 hsz0 hsz
  obtain ⟨F, hF⟩ := Go.Vm.pure_conciergelaw42_PageTurned a0 a1.data.toList [UInt8.ofNat a2.toNat, UInt8.ofNat b2.toNat] rfl
  refine (Go.Vm.law_below (Go.Vm.c_conciergelaw42_PageTurned F) Tryd.func4 (by kernel_rfl) (by kernel_rfl) hF (ds := [.int .i64 a0, .str a1.data.toList, .arr 2 .u8 [UInt8.ofNat a2.toNat, UInt8.ofNat b2.toNat]]) rfl rfl (Go.Vm.own_sh (Go.Vm.rep_int .i64 a0 rfl) rfl (Go.Vm.own_sh (Go.Vm.rep_string a1) rfl (Go.Vm.own_sh (rep_pair8 w2 x2) rfl Go.Vm.OwnL.nil))) (glOf hL hS)).mono fun e W' ⟨he, bel⟩ => ?_
  subst he
  exact ⟨_, rfl, _, _, _, [], _, [], hW', trodAll_mk1 (shut_bool Tryd.underlying4 _), (trodAll_cons_mk (shut_int Tryd.underlying3 w0) (trodAll_cons_mk (shut_string Tryd.underlying9 y1) (trodAll_cons_mk (Go.WideMaps.shut_pair arr2 Tryd.underlying5 w2 x2) trodAll_mk0))), rfl, bel.frame _, fun h => by cases h⟩
theorem over : Rows.pageTurnedRow.holds Tryd.pinned (OpenSpec.ofChange Rows.pageTurnedSpec) :=
  OpenClaim.holds_of_wide 4 Tryd.f4 rfl rfl rfl rfl rfl rfl rfl ⟨rfl, rfl, rfl, rfl, rfl⟩ rfl rfl rfl rfl rfl (by kernel_rfl) Tryd.func4 closed
    (of_decide_eq_true (by kernel_rfl)) (by unfold Func.isWrapper; first | (rw [if_pos (by decide +kernel)]; kernel_rfl) | (rw [if_neg (by decide +kernel)]; exact ⟨rfl, rfl⟩))
    (fun os started H enc _ => lifted os started H enc)
theorem proved : Rows.PageTurnedCardSaid :=
  Claim7.holds_tied_plain_at .later [] [.data, .pinned] true (true, "dbc2674e3c58bff7d21401558cef54afe90ea306819bd404b1fca094aa77cd31") false over (fun _ h => by cases h) byText (fun _ h => by cases h) Go.Proofs.YtgeafoacmnlioaaDoor.pageTurned_row_tie rfl ⟨rfl, rfl⟩ mainIs rfl
    (fun f fn hf hfn => by
      obtain rfl : f = 4 := Option.some.inj (namedAt.symm.trans hf) |>.symm
      obtain rfl : fn = Tryd.f4 := (Option.some.inj (Tryd.func4.symm.trans hfn)).symm
      exact ⟨looksAt, fun j t ht => by
        rw [Tryd.params4] at ht
        have hm : t ∈ [3, 9, 33] := by simpa using Array.mem_of_getElem? ht
        exact (show Tryd.prog.wantsStandIn t = false by simpa using List.all_eq_true.1 noStand t hm)⟩)
    goesBy
end Go.Proofs.YtgeafoacmnlioaaDoor.pageTurned
namespace Go.Proofs.YtgeafoacmnlioaaDoor
theorem pageTurned_holds : Rows.PageTurnedCardSaid := pageTurned.proved
#print axioms pageTurned_holds
end Go.Proofs.YtgeafoacmnlioaaDoor
