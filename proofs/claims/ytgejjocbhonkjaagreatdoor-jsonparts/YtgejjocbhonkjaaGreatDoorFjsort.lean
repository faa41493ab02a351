/- Models of functions of the program, and that each keeps its contract: for all arguments of its shape. No condition. -/
import Derived.Test.YtgejjocbhonkjaaGreatDoorKt
import Derived.Test.YtgejjocbhonkjaaGreatDoorV8
namespace Go.Vm
open Go.Proofs
set_option linter.unusedVariables false

namespace Srt
open Go.Proofs Go.Shelf Go.RowKit Go.Sort Go.Lib
def r_ren : Ren := ⟨fun | 14 => 165 | 15 => 166 | 20 => 179 | 21 => 180 | 22 => 181 | 23 => 182 | 24 => 183 | 25 => 184 | 26 => 185 | 27 => 186 | 28 => 187 | 29 => 188 | 46 => 202 | 47 => 203 | 48 => 204 | 49 => 205 | 50 => 206 | 57 => 217 | n => n, fun | 0 => 0 | 3 => 3 | 4 => 4 | 5 => 5 | 9 => 9 | 22 => 82 | 24 => 86 | 25 => 152 | 39 => 121 | 45 => 180 | 46 => 181 | 50 => 53 | 53 => 122 | 55 => 158 | 66 => 199 | 70 => 203 | 76 => 210 | 77 => 137 | n => n, fun n => n⟩
theorem r_lays : SlLaysF0.n14 Tryz.prog r_ren := { mixed := (by kernel_rfl), f14 := ⟨_, by kernel_rfl, Tryz.func165⟩, f15 := Tryz.func166.trans (congrArg some (by kernel_rfl)), f20 := ⟨_, by kernel_rfl, Tryz.func179⟩, f21 := ⟨_, by kernel_rfl, Tryz.func180⟩, f22 := ⟨_, by kernel_rfl, Tryz.func181⟩, f23 := ⟨_, by kernel_rfl, Tryz.func182⟩, f24 := ⟨_, by kernel_rfl, Tryz.func183⟩, f25 := ⟨_, by kernel_rfl, Tryz.func184⟩, f26 := ⟨_, by kernel_rfl, Tryz.func185⟩, f27 := ⟨_, by kernel_rfl, Tryz.func186⟩, f28 := Tryz.func187.trans (congrArg some (by kernel_rfl)), f29 := Tryz.func188.trans (congrArg some (by kernel_rfl)), f46 := ⟨_, by kernel_rfl, Tryz.func202⟩, f47 := Tryz.func203.trans (congrArg some (by kernel_rfl)), f48 := Tryz.func204.trans (congrArg some (by kernel_rfl)), f49 := ⟨_, by kernel_rfl, Tryz.func205⟩, f50 := ⟨_, by kernel_rfl, Tryz.func206⟩, f57 := ⟨_, by kernel_rfl, Tryz.func217⟩, t0 := Tryz.underlying0, a0 := Tryz.isAgg0, z0 := Tryz.sizeOf0, v0 := Tryz.zeroValue0, t3 := Tryz.underlying3, a3 := Tryz.isAgg3, z3 := Tryz.sizeOf3, v3 := Tryz.zeroValue3, t4 := Tryz.underlying4, a4 := Tryz.isAgg4, z4 := Tryz.sizeOf4, v4 := Tryz.zeroValue4, t5 := Tryz.underlying5, a5 := Tryz.isAgg5, z5 := Tryz.sizeOf5, v5 := Tryz.zeroValue5, t9 := Tryz.underlying9, a9 := Tryz.isAgg9, z9 := Tryz.sizeOf9, v9 := Tryz.zeroValue9, t22 := Tryz.underlying82, a22 := Tryz.isAgg82, z22 := Tryz.sizeOf82, v22 := Tryz.zeroValue82, t25 := Tryz.underlying152, a25 := Tryz.isAgg152, z25 := Tryz.sizeOf152, v25 := Tryz.zeroValue152, t39 := Tryz.underlying121, a39 := Tryz.isAgg121, z39 := Tryz.sizeOf121, v39 := Tryz.zeroValue121, t45 := Tryz.underlying180, a45 := Tryz.isAgg180, z45 := Tryz.sizeOf180, v45 := Tryz.zeroValue180, t46 := Tryz.underlying181, a46 := Tryz.isAgg181, z46 := Tryz.sizeOf181, v46 := Tryz.zeroValue181, t50 := Tryz.underlying53, a50 := Tryz.isAgg53, z50 := Tryz.sizeOf53, v50 := Tryz.zeroValue53, t53 := Tryz.underlying122, a53 := Tryz.isAgg122, z53 := Tryz.sizeOf122, v53 := Tryz.zeroValue122, t55 := Tryz.underlying158, a55 := Tryz.isAgg158, z55 := Tryz.sizeOf158, v55 := Tryz.zeroValue158, t66 := Tryz.underlying199, a66 := Tryz.isAgg199, z66 := Tryz.sizeOf199, v66 := Tryz.zeroValue199, t70 := Tryz.underlying203, a70 := Tryz.isAgg203, z70 := Tryz.sizeOf203, v70 := Tryz.zeroValue203, t76 := Tryz.underlying210, a76 := Tryz.isAgg210, z76 := Tryz.sizeOf210, v76 := Tryz.zeroValue210, t77 := Tryz.underlying137, a77 := Tryz.isAgg137, z77 := Tryz.sizeOf137, v77 := Tryz.zeroValue137 }

theorem isnan (x : ByteArray) (w : World) : Calls Tryz.prog 70 #[.string x] w fun e w' => e = .returned (.bool false) ∧ w' = w := by
  go_enter Tryz.func70, Tryz.ntmps70
  go_wp2
  go_ret
  exact ⟨by simp, rfl⟩
set_option maxHeartbeats 1000000 in
theorem compare (x y : ByteArray) (w : World) : Calls Tryz.prog 33 #[.string x, .string y] w fun e w' => e = .returned (.int .i64 (cmpS x y)) ∧ w' = w := by
  go_enter Tryz.func33, Tryz.ntmps33
  go_wp2_with (go_at_call 70; refine (isnan _ _).mono ?_; rintro e w' ⟨rfl, hw⟩; rw [hw])
  all_goals (go_ret; refine ⟨?_, rfl⟩; unfold cmpS; simp_all)
set_option maxHeartbeats 1000000 in
theorem closure (x y : Sub2) (W : World) : Calls Tryz.prog 140 #[.agg #[.string x.1.1, x.1.2], .agg #[.string y.1.1, y.1.2]] W fun e w' => e = .returned (.int .i64 (cmpS x.1.1 y.1.1)) ∧ ∃ q os', w' = grow (W.drewN q) os' := by
  obtain ⟨⟨x, u⟩, hu⟩ := x
  obtain ⟨⟨y, v⟩, hv⟩ := y
  have hcon := fun W' => compare x y W'
  generalize cmpS x y = r at hcon ⊢
  go_enter Tryz.func140, Tryz.ntmps140
  go_wp2_with (go_at_call 33; refine (hcon _).mono ?_; rintro e w' ⟨rfl, rfl⟩)
  go_ret
  exact ⟨rfl, 0, _, by rw [alloc_eq_grow, alloc_eq_grow, grow_grow]; rfl⟩
theorem aggE (w : World) : (isAgg 86).run Tryz.prog w = .ok true w := Tryz.isAgg86 w
theorem sizeE (w : World) : (Go.sizeOf 86).run Tryz.prog w = .ok 2 w := Tryz.sizeOf86 w
theorem lays : ∀ (blk off size : Nat) (w : World), CmpLays Tryz.prog 140 #[] encS 2 cfS blk off size w := fun _ _ _ _ _ _ _ _ x y => closure x y _
set_option maxHeartbeats 2000000 in
set_option maxRecDepth 100000 in
theorem none_ (w : World) : Calls Tryz.prog 139 #[.slice none 0 0, .func (.func 140) #[] #[]] w fun e w' => e = .returned (.tuple #[]) ∧ w' = w := by
  have hl : ∀ W, Calls Tryz.prog 166 #[.int .u64 0] W fun e w' => e = .returned (.int .i64 (Lib.bitLen 0 : Nat)) ∧ w' = W := fun W => Any.bits_Len (SlLaysF0.n15.bits (P := Tryz.prog) (ρ := r_ren) { r_lays with }) 0 W (by omega) (by omega)
  have hp := fun (lim : Int) W => AnyF.pdqsortCmpFunc_none (P := Tryz.prog) (ρ := r_ren) r_lays none 0 lim (.func (.func 140) #[] #[]) W
  go_enter Tryz.func139, Tryz.ntmps139
  go_wp2_with (first | (go_at_call 166; refine (hl _).mono ?_; rintro e w' ⟨rfl, rfl⟩) | (go_at_call 165; refine (hp _ _).mono ?_; rintro e w' ⟨rfl, rfl⟩))
  go_end0
  exact ⟨rfl, rfl⟩
set_option maxHeartbeats 2000000 in
set_option maxRecDepth 100000 in
theorem some_ (gg cap : Nat) (d : Array Sub2) (w : World) (hH : HoldsK encS 2 w gg 0 d) (hblk : gg < w.heap.size) (hsz : d.size < 4611686018427387904) :
    Calls Tryz.prog 139 #[.slice (some ⟨gg, 0, none⟩) d.size cap, .func (.func 140) #[] #[]] w fun e w' => e = .returned (.tuple #[]) ∧ ∃ d' n os, PermIn 0 d.size d d' ∧ SortedIn (ltOf cfS) 0 d.size d' ∧ w' = sortWorldK encS 2 w gg 0 n d' os := by
  have eg : ∀ args w, (callFunc 140 args).run Tryz.prog w = .ok (.enter 140 args) w := enters_of Tryz.func140 (by kernel_rfl) rfl
  have hlim : Lib.bitLen d.size < 4611686018427387904 := Nat.lt_of_le_of_lt (Lib.bitLen_le d.size 62 (by omega) (by omega)) (by omega)
  have hp := AnyQ.pdqsortCmpFunc_all (P := Tryz.prog) (ρ := r_ren) r_lays 2 aggE sizeE encS cfS 140 #[] swoS gg 0 cap d w eg (lays _ _ _ _) ⟨(fun _ => rfl), (fun x v hv => by
    simp only [encS, List.mem_cons, List.not_mem_nil, or_false] at hv
    rcases hv with rfl | rfl
    · rfl
    · exact x.2), hH, hblk⟩ (d.size + 1) 0 d.size (Lib.bitLen d.size) d w (by omega) rfl (SWK.start hH) (Nat.zero_le _) (Nat.le_refl _) hsz hlim (Or.inl rfl)
  have hl : Calls Tryz.prog 166 #[.int .u64 (d.size : Int)] w fun e w' => e = .returned (.int .i64 (Lib.bitLen d.size : Nat)) ∧ w' = w := by
    have h := Any.bits_Len (SlLaysF0.n15.bits (P := Tryz.prog) (ρ := r_ren) { r_lays with }) (d.size : Int) w (by omega) (by omega)
    rwa [Int.toNat_natCast] at h
  have wr : IntKind.u64.wrap (d.size : Int) = d.size := by simp [IntKind.wrap, IntKind.bits, IntKind.signed]; omega
  have hsort := pdq_sorts (ltOf cfS) swoS d 0 d.size (Lib.bitLen d.size) true true (Nat.zero_le _) (Nat.le_refl _) (Or.inl rfl)
  generalize pdq (ltOf cfS) d 0 d.size (Lib.bitLen d.size) true true = dd at hp hsort
  clear hH
  change Calls Tryz.prog 165 _ _ _ at hp
  go_enter Tryz.func139, Tryz.ntmps139
  go_wp2_with (first | (go_at_call 166; refine hl.mono ?_; rintro e w' ⟨rfl, rfl⟩) | (go_at_call 165; refine hp.mono ?_; rintro e w' ⟨rfl, n, os, rfl⟩))
  go_end0
  exact ⟨rfl, dd, n, os, hsort.1, hsort.2, rfl⟩
end Srt
noncomputable def s_slices_SortFunc_json_object_json_member : Spec Kd := sSortM 86 140
noncomputable def M_slices_SortFunc_json_object_json_member (F : Nat) (x : (List Me × Unit) × Unit) : Option (Unit × (List Me × Unit)) := MSortM x
theorem mo_slices_SortFunc_json_object_json_member {F F' : Nat} (h : F ≤ F') : ∀ v, Le (M_slices_SortFunc_json_object_json_member F v) (M_slices_SortFunc_json_object_json_member F' v) := fun _ => Le.refl _
theorem c_slices_SortFunc_json_object_json_member (F : Nat) : Ctr TT Tryz.prog 139 (conOf TT s_slices_SortFunc_json_object_json_member (M_slices_SortFunc_json_object_json_member F)) := ctr_sortM (kt := kt) Srt.none_ Srt.some_ Tryz.func139 (by kernel_rfl) (by kernel_rfl)

end Go.Vm
