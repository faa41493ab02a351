/- Models of functions of the program, and that each keeps its contract: for all arguments of its shape. No condition. -/
import Derived.Test.YtocgjbdimjlfhaaGreatDoorKt
import Derived.Test.YtocgjbdimjlfhaaGreatDoorV8
namespace Go.Vm
open Go.Proofs
set_option linter.unusedVariables false
namespace Srt
open Go.Proofs Go.Shelf Go.RowKit Go.Sort Go.Lib
def r_ren : Ren := ⟨fun | 14 => 241 | 15 => 242 | 20 => 252 | 21 => 253 | 22 => 254 | 23 => 255 | 24 => 256 | 25 => 257 | 26 => 258 | 27 => 259 | 28 => 260 | 29 => 237 | 46 => 265 | 47 => 266 | 48 => 267 | 49 => 268 | 50 => 269 | 57 => 270 | n => n, fun | 0 => 0 | 3 => 3 | 4 => 4 | 5 => 5 | 9 => 9 | 22 => 193 | 24 => 198 | 25 => 210 | 39 => 179 | 45 => 241 | 46 => 242 | 50 => 100 | 53 => 199 | 55 => 204 | 66 => 256 | 70 => 102 | 76 => 261 | 77 => 147 | n => n, fun n => n⟩
theorem r_lays : SlLaysF0.n14 Tryz.prog r_ren := { mixed := (by kernel_rfl), f14 := ⟨_, by kernel_rfl, Tryz.func241⟩, f15 := Tryz.func242.trans (congrArg some (by kernel_rfl)), f20 := ⟨_, by kernel_rfl, Tryz.func252⟩, f21 := ⟨_, by kernel_rfl, Tryz.func253⟩, f22 := ⟨_, by kernel_rfl, Tryz.func254⟩, f23 := ⟨_, by kernel_rfl, Tryz.func255⟩, f24 := ⟨_, by kernel_rfl, Tryz.func256⟩, f25 := ⟨_, by kernel_rfl, Tryz.func257⟩, f26 := ⟨_, by kernel_rfl, Tryz.func258⟩, f27 := ⟨_, by kernel_rfl, Tryz.func259⟩, f28 := Tryz.func260.trans (congrArg some (by kernel_rfl)), f29 := Tryz.func237.trans (congrArg some (by kernel_rfl)), f46 := ⟨_, by kernel_rfl, Tryz.func265⟩, f47 := Tryz.func266.trans (congrArg some (by kernel_rfl)), f48 := Tryz.func267.trans (congrArg some (by kernel_rfl)), f49 := ⟨_, by kernel_rfl, Tryz.func268⟩, f50 := ⟨_, by kernel_rfl, Tryz.func269⟩, f57 := ⟨_, by kernel_rfl, Tryz.func270⟩, t0 := Tryz.underlying0, a0 := Tryz.isAgg0, z0 := Tryz.sizeOf0, v0 := Tryz.zeroValue0, t3 := Tryz.underlying3, a3 := Tryz.isAgg3, z3 := Tryz.sizeOf3, v3 := Tryz.zeroValue3, t4 := Tryz.underlying4, a4 := Tryz.isAgg4, z4 := Tryz.sizeOf4, v4 := Tryz.zeroValue4, t5 := Tryz.underlying5, a5 := Tryz.isAgg5, z5 := Tryz.sizeOf5, v5 := Tryz.zeroValue5, t9 := Tryz.underlying9, a9 := Tryz.isAgg9, z9 := Tryz.sizeOf9, v9 := Tryz.zeroValue9, t22 := Tryz.underlying193, a22 := Tryz.isAgg193, z22 := Tryz.sizeOf193, v22 := Tryz.zeroValue193, t25 := Tryz.underlying210, a25 := Tryz.isAgg210, z25 := Tryz.sizeOf210, v25 := Tryz.zeroValue210, t39 := Tryz.underlying179, a39 := Tryz.isAgg179, z39 := Tryz.sizeOf179, v39 := Tryz.zeroValue179, t45 := Tryz.underlying241, a45 := Tryz.isAgg241, z45 := Tryz.sizeOf241, v45 := Tryz.zeroValue241, t46 := Tryz.underlying242, a46 := Tryz.isAgg242, z46 := Tryz.sizeOf242, v46 := Tryz.zeroValue242, t50 := Tryz.underlying100, a50 := Tryz.isAgg100, z50 := Tryz.sizeOf100, v50 := Tryz.zeroValue100, t53 := Tryz.underlying199, a53 := Tryz.isAgg199, z53 := Tryz.sizeOf199, v53 := Tryz.zeroValue199, t55 := Tryz.underlying204, a55 := Tryz.isAgg204, z55 := Tryz.sizeOf204, v55 := Tryz.zeroValue204, t66 := Tryz.underlying256, a66 := Tryz.isAgg256, z66 := Tryz.sizeOf256, v66 := Tryz.zeroValue256, t70 := Tryz.underlying102, a70 := Tryz.isAgg102, z70 := Tryz.sizeOf102, v70 := Tryz.zeroValue102, t76 := Tryz.underlying261, a76 := Tryz.isAgg261, z76 := Tryz.sizeOf261, v76 := Tryz.zeroValue261, t77 := Tryz.underlying147, a77 := Tryz.isAgg147, z77 := Tryz.sizeOf147, v77 := Tryz.zeroValue147 }
theorem isnan (x : ByteArray) (w : World) : Calls Tryz.prog 243 #[.string x] w fun e w' => e = .returned (.bool false) ∧ w' = w := by
  go_enter Tryz.func243, Tryz.ntmps243
  go_wp2
  go_ret
  exact ⟨by simp, rfl⟩
set_option maxHeartbeats 1000000 in
theorem compare (x y : ByteArray) (w : World) : Calls Tryz.prog 221 #[.string x, .string y] w fun e w' => e = .returned (.int .i64 (cmpS x y)) ∧ w' = w := by
  go_enter Tryz.func221, Tryz.ntmps221
  go_wp2_with (go_at_call 243; refine (isnan _ _).mono ?_; rintro e w' ⟨rfl, hw⟩; rw [hw])
  all_goals (go_ret; refine ⟨?_, rfl⟩; unfold cmpS; simp_all)
set_option maxHeartbeats 1000000 in
theorem closure (x y : Sub2) (W : World) : Calls Tryz.prog 220 #[.agg #[.string x.1.1, x.1.2], .agg #[.string y.1.1, y.1.2]] W fun e w' => e = .returned (.int .i64 (cmpS x.1.1 y.1.1)) ∧ ∃ q os', w' = grow (W.drewN q) os' := by
  obtain ⟨⟨x, u⟩, hu⟩ := x
  obtain ⟨⟨y, v⟩, hv⟩ := y
  have hcon := fun W' => compare x y W'
  generalize cmpS x y = r at hcon ⊢
  go_enter Tryz.func220, Tryz.ntmps220
  go_wp2_with (go_at_call 221; refine (hcon _).mono ?_; rintro e w' ⟨rfl, rfl⟩)
  go_ret
  exact ⟨rfl, 0, _, by rw [alloc_eq_grow, alloc_eq_grow, grow_grow]; rfl⟩
theorem lays : ∀ (blk off size : Nat) (w : World), CmpLays Tryz.prog 220 #[] encS 2 cfS blk off size w := fun _ _ _ _ _ _ _ _ x y => closure x y _
end Srt
end Go.Vm
