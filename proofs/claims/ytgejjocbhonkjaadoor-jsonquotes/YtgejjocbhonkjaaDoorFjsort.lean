/- Models of functions of the program, and that each keeps its contract: for all arguments of its shape. No condition. -/
import Derived.Test.YtgejjocbhonkjaaDoorKt
import Derived.Test.YtgejjocbhonkjaaDoorV8
namespace Go.Vm
open Go.Proofs
set_option linter.unusedVariables false

namespace Srt
open Go.Proofs Go.Shelf Go.RowKit Go.Sort Go.Lib
def r_ren : Ren := ⟨fun | 14 => 191 | 15 => 91 | 20 => 209 | 21 => 210 | 22 => 211 | 23 => 212 | 24 => 213 | 25 => 214 | 26 => 215 | 27 => 216 | 28 => 126 | 29 => 127 | 46 => 231 | 47 => 158 | 48 => 159 | 49 => 232 | 50 => 233 | 57 => 243 | n => n, fun | 0 => 0 | 3 => 3 | 4 => 4 | 5 => 5 | 9 => 9 | 22 => 133 | 24 => 154 | 25 => 195 | 39 => 111 | 45 => 162 | 46 => 163 | 50 => 147 | 53 => 115 | 55 => 170 | 66 => 184 | 70 => 188 | 76 => 206 | 77 => 97 | n => n, fun n => n⟩
theorem r_lays : SlLaysF0.n14 Tryd.prog r_ren := { mixed := (by kernel_rfl), f14 := ⟨_, by kernel_rfl, Tryd.func191⟩, f15 := Tryd.func91.trans (congrArg some (by kernel_rfl)), f20 := ⟨_, by kernel_rfl, Tryd.func209⟩, f21 := ⟨_, by kernel_rfl, Tryd.func210⟩, f22 := ⟨_, by kernel_rfl, Tryd.func211⟩, f23 := ⟨_, by kernel_rfl, Tryd.func212⟩, f24 := ⟨_, by kernel_rfl, Tryd.func213⟩, f25 := ⟨_, by kernel_rfl, Tryd.func214⟩, f26 := ⟨_, by kernel_rfl, Tryd.func215⟩, f27 := ⟨_, by kernel_rfl, Tryd.func216⟩, f28 := Tryd.func126.trans (congrArg some (by kernel_rfl)), f29 := Tryd.func127.trans (congrArg some (by kernel_rfl)), f46 := ⟨_, by kernel_rfl, Tryd.func231⟩, f47 := Tryd.func158.trans (congrArg some (by kernel_rfl)), f48 := Tryd.func159.trans (congrArg some (by kernel_rfl)), f49 := ⟨_, by kernel_rfl, Tryd.func232⟩, f50 := ⟨_, by kernel_rfl, Tryd.func233⟩, f57 := ⟨_, by kernel_rfl, Tryd.func243⟩, t0 := Tryd.underlying0, a0 := Tryd.isAgg0, z0 := Tryd.sizeOf0, v0 := Tryd.zeroValue0, t3 := Tryd.underlying3, a3 := Tryd.isAgg3, z3 := Tryd.sizeOf3, v3 := Tryd.zeroValue3, t4 := Tryd.underlying4, a4 := Tryd.isAgg4, z4 := Tryd.sizeOf4, v4 := Tryd.zeroValue4, t5 := Tryd.underlying5, a5 := Tryd.isAgg5, z5 := Tryd.sizeOf5, v5 := Tryd.zeroValue5, t9 := Tryd.underlying9, a9 := Tryd.isAgg9, z9 := Tryd.sizeOf9, v9 := Tryd.zeroValue9, t22 := Tryd.underlying133, a22 := Tryd.isAgg133, z22 := Tryd.sizeOf133, v22 := Tryd.zeroValue133, t25 := Tryd.underlying195, a25 := Tryd.isAgg195, z25 := Tryd.sizeOf195, v25 := Tryd.zeroValue195, t39 := Tryd.underlying111, a39 := Tryd.isAgg111, z39 := Tryd.sizeOf111, v39 := Tryd.zeroValue111, t45 := Tryd.underlying162, a45 := Tryd.isAgg162, z45 := Tryd.sizeOf162, v45 := Tryd.zeroValue162, t46 := Tryd.underlying163, a46 := Tryd.isAgg163, z46 := Tryd.sizeOf163, v46 := Tryd.zeroValue163, t50 := Tryd.underlying147, a50 := Tryd.isAgg147, z50 := Tryd.sizeOf147, v50 := Tryd.zeroValue147, t53 := Tryd.underlying115, a53 := Tryd.isAgg115, z53 := Tryd.sizeOf115, v53 := Tryd.zeroValue115, t55 := Tryd.underlying170, a55 := Tryd.isAgg170, z55 := Tryd.sizeOf170, v55 := Tryd.zeroValue170, t66 := Tryd.underlying184, a66 := Tryd.isAgg184, z66 := Tryd.sizeOf184, v66 := Tryd.zeroValue184, t70 := Tryd.underlying188, a70 := Tryd.isAgg188, z70 := Tryd.sizeOf188, v70 := Tryd.zeroValue188, t76 := Tryd.underlying206, a76 := Tryd.isAgg206, z76 := Tryd.sizeOf206, v76 := Tryd.zeroValue206, t77 := Tryd.underlying97, a77 := Tryd.isAgg97, z77 := Tryd.sizeOf97, v77 := Tryd.zeroValue97 }

theorem isnan (x : ByteArray) (w : World) : Calls Tryd.prog 109 #[.string x] w fun e w' => e = .returned (.bool false) ∧ w' = w := by
  go_enter Tryd.func109, Tryd.ntmps109
  go_wp2
  go_ret
  exact ⟨by simp, rfl⟩
set_option maxHeartbeats 1000000 in
theorem compare (x y : ByteArray) (w : World) : Calls Tryd.prog 71 #[.string x, .string y] w fun e w' => e = .returned (.int .i64 (cmpS x y)) ∧ w' = w := by
  go_enter Tryd.func71, Tryd.ntmps71
  go_wp2_with (go_at_call 109; refine (isnan _ _).mono ?_; rintro e w' ⟨rfl, hw⟩; rw [hw])
  all_goals (go_ret; refine ⟨?_, rfl⟩; unfold cmpS; simp_all)
set_option maxHeartbeats 1000000 in
theorem closure (x y : Sub2) (W : World) : Calls Tryd.prog 169 #[.agg #[.string x.1.1, x.1.2], .agg #[.string y.1.1, y.1.2]] W fun e w' => e = .returned (.int .i64 (cmpS x.1.1 y.1.1)) ∧ ∃ q os', w' = grow (W.drewN q) os' := by
  obtain ⟨⟨x, u⟩, hu⟩ := x
  obtain ⟨⟨y, v⟩, hv⟩ := y
  have hcon := fun W' => compare x y W'
  generalize cmpS x y = r at hcon ⊢
  go_enter Tryd.func169, Tryd.ntmps169
  go_wp2_with (go_at_call 71; refine (hcon _).mono ?_; rintro e w' ⟨rfl, rfl⟩)
  go_ret
  exact ⟨rfl, 0, _, by rw [alloc_eq_grow, alloc_eq_grow, grow_grow]; rfl⟩
theorem aggE (w : World) : (isAgg 154).run Tryd.prog w = .ok true w := Tryd.isAgg154 w
theorem sizeE (w : World) : (Go.sizeOf 154).run Tryd.prog w = .ok 2 w := Tryd.sizeOf154 w
theorem lays : ∀ (blk off size : Nat) (w : World), CmpLays Tryd.prog 169 #[] encS 2 cfS blk off size w := fun _ _ _ _ _ _ _ _ x y => closure x y _
set_option maxHeartbeats 2000000 in
set_option maxRecDepth 100000 in
theorem none_ (w : World) : Calls Tryd.prog 168 #[.slice none 0 0, .func (.func 169) #[] #[]] w fun e w' => e = .returned (.tuple #[]) ∧ w' = w := by
  have hl : ∀ W, Calls Tryd.prog 91 #[.int .u64 0] W fun e w' => e = .returned (.int .i64 (Lib.bitLen 0 : Nat)) ∧ w' = W := fun W => Any.bits_Len (SlLaysF0.n15.bits (P := Tryd.prog) (ρ := r_ren) { r_lays with }) 0 W (by omega) (by omega)
  have hp := fun (lim : Int) W => AnyF.pdqsortCmpFunc_none (P := Tryd.prog) (ρ := r_ren) r_lays none 0 lim (.func (.func 169) #[] #[]) W
  go_enter Tryd.func168, Tryd.ntmps168
  go_wp2_with (first | (go_at_call 91; refine (hl _).mono ?_; rintro e w' ⟨rfl, rfl⟩) | (go_at_call 191; refine (hp _ _).mono ?_; rintro e w' ⟨rfl, rfl⟩))
  go_end0
  exact ⟨rfl, rfl⟩
set_option maxHeartbeats 2000000 in
set_option maxRecDepth 100000 in
theorem some_ (gg cap : Nat) (d : Array Sub2) (w : World) (hH : HoldsK encS 2 w gg 0 d) (hblk : gg < w.heap.size) (hsz : d.size < 4611686018427387904) :
    Calls Tryd.prog 168 #[.slice (some ⟨gg, 0, none⟩) d.size cap, .func (.func 169) #[] #[]] w fun e w' => e = .returned (.tuple #[]) ∧ ∃ d' n os, PermIn 0 d.size d d' ∧ SortedIn (ltOf cfS) 0 d.size d' ∧ w' = sortWorldK encS 2 w gg 0 n d' os := by
  have eg : ∀ args w, (callFunc 169 args).run Tryd.prog w = .ok (.enter 169 args) w := enters_of Tryd.func169 (by kernel_rfl) rfl
  have hlim : Lib.bitLen d.size < 4611686018427387904 := Nat.lt_of_le_of_lt (Lib.bitLen_le d.size 62 (by omega) (by omega)) (by omega)
  have hp := AnyQ.pdqsortCmpFunc_all (P := Tryd.prog) (ρ := r_ren) r_lays 2 aggE sizeE encS cfS 169 #[] swoS gg 0 cap d w eg (lays _ _ _ _) ⟨(fun _ => rfl), (fun x v hv => by
    simp only [encS, List.mem_cons, List.not_mem_nil, or_false] at hv
    rcases hv with rfl | rfl
    · rfl
    · exact x.2), hH, hblk⟩ (d.size + 1) 0 d.size (Lib.bitLen d.size) d w (by omega) rfl (SWK.start hH) (Nat.zero_le _) (Nat.le_refl _) hsz hlim (Or.inl rfl)
  have hl : Calls Tryd.prog 91 #[.int .u64 (d.size : Int)] w fun e w' => e = .returned (.int .i64 (Lib.bitLen d.size : Nat)) ∧ w' = w := by
    have h := Any.bits_Len (SlLaysF0.n15.bits (P := Tryd.prog) (ρ := r_ren) { r_lays with }) (d.size : Int) w (by omega) (by omega)
    rwa [Int.toNat_natCast] at h
  have wr : IntKind.u64.wrap (d.size : Int) = d.size := by simp [IntKind.wrap, IntKind.bits, IntKind.signed]; omega
  have hsort := pdq_sorts (ltOf cfS) swoS d 0 d.size (Lib.bitLen d.size) true true (Nat.zero_le _) (Nat.le_refl _) (Or.inl rfl)
  generalize pdq (ltOf cfS) d 0 d.size (Lib.bitLen d.size) true true = dd at hp hsort
  clear hH
  change Calls Tryd.prog 191 _ _ _ at hp
  go_enter Tryd.func168, Tryd.ntmps168
  go_wp2_with (first | (go_at_call 91; refine hl.mono ?_; rintro e w' ⟨rfl, rfl⟩) | (go_at_call 191; refine hp.mono ?_; rintro e w' ⟨rfl, n, os, rfl⟩))
  go_end0
  exact ⟨rfl, dd, n, os, hsort.1, hsort.2, rfl⟩
end Srt
noncomputable def s_slices_SortFunc_json_object_json_member : Spec Kd := sSortM 154 169
noncomputable def M_slices_SortFunc_json_object_json_member (F : Nat) (x : (List Me × Unit) × Unit) : Option (Unit × (List Me × Unit)) := MSortM x
theorem mo_slices_SortFunc_json_object_json_member {F F' : Nat} (h : F ≤ F') : ∀ v, Le (M_slices_SortFunc_json_object_json_member F v) (M_slices_SortFunc_json_object_json_member F' v) := fun _ => Le.refl _
theorem c_slices_SortFunc_json_object_json_member (F : Nat) : Ctr TT Tryd.prog 168 (conOf TT s_slices_SortFunc_json_object_json_member (M_slices_SortFunc_json_object_json_member F)) := ctr_sortM (kt := kt) Srt.none_ Srt.some_ Tryd.func168 (by kernel_rfl) (by kernel_rfl)

end Go.Vm
