/- The law concierge/conciergelaw05.CanonRequests: for every input it answers true. No condition. -/
import Derived.Test.YtblbmkhlnaaopaaDoorTie
import Derived.Test.YtblbmkhlnaaopaaDoorCards
import Derived.Lay
import Derived.LaidLaws
import Derived.LaidOnce
import Derived.SevenTiedAt
import Derived.MakeChecks
import Derived.Handed
import Derived.Test.YtblbmkhlnaaopaaDoorRows
import Derived.Test.YtblbmkhlnaaopaaDoorFlaw5
import Derived.Test.YtblbmkhlnaaopaaDoorPc4
import Derived.WalkKit
import Derived.ProofKit
import Derived.OpenShut
import Derived.ShutString
import Derived.ChangeOld
import Derived.Below
import Derived.SizedLaws
import Derived.SliceStrings
import Derived.WideKeyPair
namespace Go.Proofs.YtblbmkhlnaaopaaDoor.canonRequests
open Go.ChangeShapes Go.WideShapes Go.ChangeAt Go.RowKit
open Go.ChangeMaps (open_string shut_string)
set_option linter.unusedVariables false
theorem own : ownKnob Tryd.prog.godebug = none := by kernel_rfl
theorem laidOut : laidOutB Tryd.prog = true := by kernel_rfl
theorem len_cons {α : Type} {l : List α} {n : Nat} (h : l.length = n + 1) : ∃ a t, l = a :: t ∧ t.length = n := by
  cases l with
  | nil => simp at h
  | cons a t => exact ⟨a, t, rfl, by simpa using h⟩
theorem opened0 {H : Type} {enc : TypeId × Value → H} {W : World} {base : Nat} {sp : Nat → Bool} {held : Bool} {cs : Array Value} {d : DataW H} {ps : List MemPlace} (hz : cs.size = Tryd.prog.cellsOf 30) (h : DataW.Trod enc Tryd.prog W base sp held 30 (.agg cs) d ps) :
    ∃ (a0_0 : Int) (a0_1 : Int) (a0_2 : Int) (a0_3 : ByteArray) (a0_4 : ByteArray) (a0_5 : ByteArray) (a0_6 : ByteArray), cs = #[.int .i64 a0_0, .int .i64 a0_1, .int .i64 a0_2, .string a0_3, .string a0_4, .string a0_5, .string a0_6] := by
  obtain ⟨fuel, hf⟩ := h
  obtain ⟨xs, m, rfl, _, _, hxl, hfs⟩ := DataW.trod_struct Tryd.underlying30 hf
  replace hxl : xs.length = 7 := hxl
  obtain ⟨l⟩ := cs
  replace hfs : ∀ (i : Nat) (f : Field), (_ : Array Field)[i]? = some f → DataW.trod enc Tryd.prog W base sp held m f.type ((l.drop f.offset).take (Tryd.prog.cellsOf f.type)) = xs[i]? := hfs
  have z0 : l.length = 7 := hz.trans (by kernel_rfl)
  obtain ⟨d0_, l0, rfl, z1⟩ := len_cons z0
  obtain ⟨d1_, l1, rfl, z2⟩ := len_cons z1
  obtain ⟨d2_, l2, rfl, z3⟩ := len_cons z2
  obtain ⟨d3_, l3, rfl, z4⟩ := len_cons z3
  obtain ⟨d4_, l4, rfl, z5⟩ := len_cons z4
  obtain ⟨d5_, l5, rfl, z6⟩ := len_cons z5
  obtain ⟨d6_, l6, rfl, z7⟩ := len_cons z6
  obtain rfl := List.length_eq_zero_iff.1 z7
  obtain ⟨y0, hy0⟩ : ∃ y, xs[0]? = some y := ⟨_, List.getElem?_eq_getElem (by rw [hxl]; decide)⟩
  have e0 : DataW.trod enc Tryd.prog W base sp held m 3 (([d0_, d1_, d2_, d3_, d4_, d5_, d6_].drop 0).take (Tryd.prog.cellsOf 3)) = xs[0]? := hfs 0 _ rfl
  rw [hy0] at e0
  obtain ⟨b0, g0, _⟩ := DataW.trod_int Tryd.underlying3 e0
  rw [show Tryd.prog.cellsOf 3 = 1 from by kernel_rfl] at g0
  have q0 : d0_ = _ := (List.cons.inj g0).1
  obtain ⟨y1, hy1⟩ : ∃ y, xs[1]? = some y := ⟨_, List.getElem?_eq_getElem (by rw [hxl]; decide)⟩
  have e1 : DataW.trod enc Tryd.prog W base sp held m 3 (([d0_, d1_, d2_, d3_, d4_, d5_, d6_].drop 1).take (Tryd.prog.cellsOf 3)) = xs[1]? := hfs 1 _ rfl
  rw [hy1] at e1
  obtain ⟨b1, g1, _⟩ := DataW.trod_int Tryd.underlying3 e1
  rw [show Tryd.prog.cellsOf 3 = 1 from by kernel_rfl] at g1
  have q1 : d1_ = _ := (List.cons.inj g1).1
  obtain ⟨y2, hy2⟩ : ∃ y, xs[2]? = some y := ⟨_, List.getElem?_eq_getElem (by rw [hxl]; decide)⟩
  have e2 : DataW.trod enc Tryd.prog W base sp held m 3 (([d0_, d1_, d2_, d3_, d4_, d5_, d6_].drop 2).take (Tryd.prog.cellsOf 3)) = xs[2]? := hfs 2 _ rfl
  rw [hy2] at e2
  obtain ⟨b2, g2, _⟩ := DataW.trod_int Tryd.underlying3 e2
  rw [show Tryd.prog.cellsOf 3 = 1 from by kernel_rfl] at g2
  have q2 : d2_ = _ := (List.cons.inj g2).1
  obtain ⟨y3, hy3⟩ : ∃ y, xs[3]? = some y := ⟨_, List.getElem?_eq_getElem (by rw [hxl]; decide)⟩
  have e3 : DataW.trod enc Tryd.prog W base sp held m 9 (([d0_, d1_, d2_, d3_, d4_, d5_, d6_].drop 3).take (Tryd.prog.cellsOf 9)) = xs[3]? := hfs 3 _ rfl
  rw [hy3] at e3
  obtain ⟨b3, g3, _⟩ := DataW.trod_string Tryd.underlying9 e3
  rw [show Tryd.prog.cellsOf 9 = 1 from by kernel_rfl] at g3
  have q3 : d3_ = _ := (List.cons.inj g3).1
  obtain ⟨y4, hy4⟩ : ∃ y, xs[4]? = some y := ⟨_, List.getElem?_eq_getElem (by rw [hxl]; decide)⟩
  have e4 : DataW.trod enc Tryd.prog W base sp held m 9 (([d0_, d1_, d2_, d3_, d4_, d5_, d6_].drop 4).take (Tryd.prog.cellsOf 9)) = xs[4]? := hfs 4 _ rfl
  rw [hy4] at e4
  obtain ⟨b4, g4, _⟩ := DataW.trod_string Tryd.underlying9 e4
  rw [show Tryd.prog.cellsOf 9 = 1 from by kernel_rfl] at g4
  have q4 : d4_ = _ := (List.cons.inj g4).1
  obtain ⟨y5, hy5⟩ : ∃ y, xs[5]? = some y := ⟨_, List.getElem?_eq_getElem (by rw [hxl]; decide)⟩
  have e5 : DataW.trod enc Tryd.prog W base sp held m 9 (([d0_, d1_, d2_, d3_, d4_, d5_, d6_].drop 5).take (Tryd.prog.cellsOf 9)) = xs[5]? := hfs 5 _ rfl
  rw [hy5] at e5
  obtain ⟨b5, g5, _⟩ := DataW.trod_string Tryd.underlying9 e5
  rw [show Tryd.prog.cellsOf 9 = 1 from by kernel_rfl] at g5
  have q5 : d5_ = _ := (List.cons.inj g5).1
  obtain ⟨y6, hy6⟩ : ∃ y, xs[6]? = some y := ⟨_, List.getElem?_eq_getElem (by rw [hxl]; decide)⟩
  have e6 : DataW.trod enc Tryd.prog W base sp held m 9 (([d0_, d1_, d2_, d3_, d4_, d5_, d6_].drop 6).take (Tryd.prog.cellsOf 9)) = xs[6]? := hfs 6 _ rfl
  rw [hy6] at e6
  obtain ⟨b6, g6, _⟩ := DataW.trod_string Tryd.underlying9 e6
  rw [show Tryd.prog.cellsOf 9 = 1 from by kernel_rfl] at g6
  have q6 : d6_ = _ := (List.cons.inj g6).1
  subst q0 q1 q2 q3 q4 q5 q6
  exact ⟨_, _, _, _, _, _, _, rfl⟩
def laid : List (String × DataW Unit) := [("unicode/utf8.acceptRanges", Rows.laid_unicode_utf8_acceptRanges), ("unicode/utf8.first", Rows.laid_unicode_utf8_first)]
set_option maxHeartbeats 2000000 in
set_option maxRecDepth 100000 in
theorem lifted (os : Os) (started : os.Started) (H : Type) (enc : TypeId × Value → H) :
    ReturnsInHanded {} Tryd.checked os 6 .any (fun w args => (Rows.canonRequestsSpec.pre enc Tryd.prog Tryd.f6 [] false w args ∧ laidMetH Tryd.prog laid w) ∧ sizedMet enc Tryd.prog Tryd.f6 (OpenSpec.ofChange Rows.canonRequestsSpec) false w args) (Rows.canonRequestsSpec.post enc Tryd.prog Tryd.f6 false true false false) := by
  refine returnsInHanded_of_change_and (C := Tryd.checked) (X := fun w _ => laidMetH Tryd.prog laid w) (fun _ _ _ hh h => h.of_heap hh) own started (by kernel_rfl) Tryd.func6
    (ChangeSpec.witness_shaped (enc := enc) (C := Tryd.checked) (os := os) (X := fun w _ => laidMetH Tryd.prog laid w) false (World.laidAll Tryd.prog os laid) #[.agg #[.int .i64 0, .int .i64 0, .int .i64 0, .string ByteArray.empty, .string ByteArray.empty, .string ByteArray.empty, .string ByteArray.empty]] 8 (World.laidAll_os _ _ _)
      (World.shaped_of_ZipB (by kernel_rfl) (by kernel_rfl)) (by kernel_rfl) (by kernel_rfl) (by kernel_rfl)
      (by rw [MakeChecks.laidMetH_plain _ _ _ (by kernel_rfl)]; exact laidMet_laidAll _ (by kernel_rfl) (by kernel_rfl))) ?_
  intro W base args ds gs before hval0 hW hcnd hsz0 hL _
  have hsz : (DataW.weightsEach Tryd.prog (Tryd.f6.params.toList ++ Rows.canonRequestsSpec.plain.varTypes Tryd.prog) (ds ++ gs)).all (· ≤ reachBytes) = true := hsz0
  have hval : ∀ (j : Nat) t v, Tryd.f6.params[j]? = some t → args[j]? = some v → Value.okWide Tryd.prog W .any base t v := hval0
  have hW' := hW
  obtain ⟨p, q, hA0, hV, rfl, hfz, hnd⟩ := hW
  have hA : DataW.TrodAll enc Tryd.prog W 0 (fun _ => true) true Tryd.f6.params.toList args.toList ds p := hA0
  rw [Tryd.params6] at hA hval hsz
  obtain ⟨v0, vs0, d0, ds0, p0, q0, hargs, rfl, rfl, h0, r0⟩ := trodAll_cons hA
  obtain ⟨rfl, rfl, rfl⟩ := trodAll_nil r0
  obtain rfl : args = #[v0] := by cases args; simp_all
  obtain ⟨rfl, rfl⟩ := trodVars_none hV
  obtain ⟨cs0, rfl, hz0⟩ := okWide_struct Tryd.underlying30 (hval 0 30 v0 rfl rfl)
  have k0 := h0
  have lt0 : ∀ x ∈ p0, x.block < W.heap.size := by obtain ⟨m, hm⟩ := k0; exact DataW.trod_lt m _ _ _ hm
  obtain ⟨a0_0, a0_1, a0_2, a0_3, a0_4, a0_5, a0_6, rfl⟩ := opened0 hz0 h0
  clear hA0 hval0 hsz0 hsz
  obtain ⟨F, hF⟩ := Go.Vm.pure_conciergelaw05_CanonRequests (a0_0, a0_1, a0_2, a0_3.data.toList, a0_4.data.toList, a0_5.data.toList, a0_6.data.toList, ())
  refine (Go.Vm.law_below (Go.Vm.c_conciergelaw05_CanonRequests F) Tryd.func6 (by kernel_rfl) (by kernel_rfl) hF (ds := [.agg [.int .i64 a0_0, .int .i64 a0_1, .int .i64 a0_2, .str a0_3.data.toList, .str a0_4.data.toList, .str a0_5.data.toList, .str a0_6.data.toList]]) rfl rfl (Go.Vm.own_sh (Go.Vm.rep_agg (.cons (Go.Vm.rep_int .i64 a0_0 rfl) (.cons (Go.Vm.rep_int .i64 a0_1 rfl) (.cons (Go.Vm.rep_int .i64 a0_2 rfl) (.cons (Go.Vm.rep_string a0_3) (.cons (Go.Vm.rep_string a0_4) (.cons (Go.Vm.rep_string a0_5) (.cons (Go.Vm.rep_string a0_6) Go.Vm.ReppL.nil)))))))) rfl Go.Vm.OwnL.nil)).mono fun e W' ⟨he, bel⟩ => ?_
  subst he
  exact ⟨_, rfl, _, _, _, [], _, [], hW', trodAll_mk1 (shut_bool Tryd.underlying4 _), (trodAll_cons_mk (Below.trod laidOut (by kernel_rfl) (of_decide_eq_true (by kernel_rfl)) k0 bel lt0) trodAll_mk0), rfl, bel.frame _, fun h => by cases h⟩
theorem over : Rows.canonRequestsRow.holds Tryd.pinned (OpenSpec.ofChange Rows.canonRequestsSpec) :=
  OpenClaim.holds_of_wide 6 Tryd.f6 rfl rfl rfl rfl rfl rfl rfl ⟨rfl, rfl, rfl, rfl, rfl⟩ rfl rfl rfl rfl rfl (by kernel_rfl) Tryd.func6 (by kernel_rfl)
    (of_decide_eq_true (by kernel_rfl)) (by unfold Func.isWrapper; first | (rw [if_pos (by decide +kernel)]; kernel_rfl) | (rw [if_neg (by decide +kernel)]; exact ⟨rfl, rfl⟩))
    (fun os started H enc _ => lifted os started H enc)
theorem proved : Rows.CanonRequestsCardSaid :=
  Claim7.holds_tied_plain_at .later [] [.data, .pinned] true (true, "2cdd596f11ff8d6560d73677dbb3e5c5173416df5e171f46a947bb3e065a17dc") false over (fun _ h => by cases h) (by kernel_rfl) (fun _ h => by cases h) Go.Proofs.YtblbmkhlnaaopaaDoor.canonRequests_row_tie rfl ⟨rfl, rfl⟩ (by kernel_rfl) rfl
    (fun f fn hf hfn => by
      obtain rfl : f = 6 := Option.some.inj ((show Tryd.prog.funcNamed "concierge/conciergelaw05.CanonRequests" = some 6 by kernel_rfl).symm.trans hf) |>.symm
      obtain rfl : fn = Tryd.f6 := (Option.some.inj (Tryd.func6.symm.trans hfn)).symm
      exact ⟨by kernel_rfl, fun j t ht => by
        rw [Tryd.params6] at ht
        have hm : t ∈ [30] := by simpa using Array.mem_of_getElem? ht
        have hall : ([30].all fun u => !Tryd.prog.wantsStandIn u) = true := by kernel_rfl
        exact (show Tryd.prog.wantsStandIn t = false by simpa using List.all_eq_true.1 hall t hm)⟩)
    (by kernel_rfl)
end Go.Proofs.YtblbmkhlnaaopaaDoor.canonRequests
namespace Go.Proofs.YtblbmkhlnaaopaaDoor
/-- The card, under a short name, for the claim. -/
theorem canonRequests_holds : Rows.CanonRequestsCardSaid := canonRequests.proved
#print axioms canonRequests_holds
end Go.Proofs.YtblbmkhlnaaopaaDoor
