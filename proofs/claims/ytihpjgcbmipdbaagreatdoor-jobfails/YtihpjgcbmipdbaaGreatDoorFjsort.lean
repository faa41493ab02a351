import Derived.Test.YtihpjgcbmipdbaaGreatDoorKt
import Derived.Test.YtihpjgcbmipdbaaGreatDoorV8
/- Models of functions of the program, and that each keeps its contract: for all arguments of its shape. No condition. -/
namespace Go.Vm
open Go.Proofs
set_option linter.unusedVariables false
noncomputable def s_json_object_find_1 : Spec Kd := { params := [(.agg [.str, (.any .jv)]), (.shp [.str])], ret := (.one (.a .bool)), pins := [], pl := { nt := 8 }, rfrz := [], ts := [3] }
noncomputable def e_json_object_find_1 (F : Nat) : Env El := envN
noncomputable def M_json_object_find_1 (F : Nat) (x : ((List UInt8) × (El .jv) × Unit) × ((List UInt8) × Unit)) : Option (Bool) :=
 some (decide (x.1.1 = x.2.1))
theorem t_json_object_find_1 (x : ((List UInt8) × (El .jv) × Unit) × ((List UInt8) × Unit)) (F : Nat) : fnRun TT Tryz.prog (e_json_object_find_1 F) s_json_object_find_1 (bodyOf 237) F x = M_json_object_find_1 F x := by kernel_rfl
theorem c_json_object_find_1 (F : Nat) : Ctr TT Tryz.prog 237 (conOf TT s_json_object_find_1 (M_json_object_find_1 F)) :=
 ctr_of (code := bodyOf 237) Tryz.func237 (by kernel_rfl) (by kernel_rfl) (by kernel_rfl) (by kernel_rfl) envN_ok hm (by kernel_rfl) (fun x r h => ⟨F, (t_json_object_find_1 x F).trans h⟩)
noncomputable def s_slices_IndexFunc_json_object_json_member : Spec Kd := { params := [(.a (.slc .me)), (.fnc 237 [[.str]])], ret := (.one (.a (.int .i64))), pins := [], pl := { nt := 19, loops := [(0, ⟨[.tmp 0 (.a (.slc .me)), .tmp 1 (.fnc 237 [[.str]]), .tmp 7 (.a (.int .i64)), .tmp 8 (.a (.int .i64))], [], []⟩, (.exit 0, ⟨[], [], []⟩), [(.ret, ⟨[.tmp 4 (.a (.int .i64))], [], []⟩)])] }, rfrz := [], ts := [4] }
noncomputable def e_slices_IndexFunc_json_object_json_member (F : Nat) : Env El := (envS 237 (conOf TT s_json_object_find_1 (M_json_object_find_1 F)) envN)
noncomputable def M_slices_IndexFunc_json_object_json_member_l0 (F : Nat) (v0 : (List (List UInt8 × JV × Unit) × ((List UInt8 × Unit) × Unit) × Int × Int × Unit)) : Option ((List (List UInt8 × JV × Unit) × ((List UInt8 × Unit) × Unit) × Int × Int × Unit) ⊕ (Unit ⊕ Int × Unit)) :=
 if decide (v0.2.2.2.1 < v0.2.2.1) = true then
     (idx v0.1 v0.2.2.2.1).bind fun v1 =>
      (M_json_object_find_1 F ((v1.1, v1.2.1, ()), v0.2.1.1.1, ())).bind fun v2 =>
       if v2 = true then some (Sum.inr (Sum.inr (v0.2.2.2.1, ())))
       else some (Sum.inl (v0.1, ((v0.2.1.1.1, ()), ()), v0.2.2.1, IntKind.i64.wrap (v0.2.2.2.1 + 1), ()))
    else some (Sum.inr (Sum.inl ()))
noncomputable def M_slices_IndexFunc_json_object_json_member (F : Nat) (x : (List (El .me)) × (((List UInt8) × Unit) × Unit)) : Option (Int) :=
 (loopM (M_slices_IndexFunc_json_object_json_member_l0 F)
    F (x.1, ((x.2.1.1, ()), ()), (↑x.1.length : Int), 0, ())).bind
  fun v3 => sumC v3 (fun v4 => some (-1)) fun v5 => some v5.1
theorem t_slices_IndexFunc_json_object_json_member (x : (List (El .me)) × (((List UInt8) × Unit) × Unit)) (F : Nat) : fnRun TT Tryz.prog (e_slices_IndexFunc_json_object_json_member F) s_slices_IndexFunc_json_object_json_member (bodyOf 236) F x = M_slices_IndexFunc_json_object_json_member F x := by kernel_rfl
theorem c_slices_IndexFunc_json_object_json_member (F : Nat) : Ctr TT Tryz.prog 236 (conOf TT s_slices_IndexFunc_json_object_json_member (M_slices_IndexFunc_json_object_json_member F)) :=
 ctr_of (code := bodyOf 236) Tryz.func236 (by kernel_rfl) (by kernel_rfl) (by kernel_rfl) (by kernel_rfl) (envS_ok envN_ok (c_json_object_find_1 F)) hm (by kernel_rfl) (fun x r h => ⟨F, (t_slices_IndexFunc_json_object_json_member x F).trans h⟩)
noncomputable def s_json_object_find : Spec Kd := { params := [(.a (.slc .me)), (.a .str)], ret := (.one (.a (.int .i64))), pins := [], pl := { nt := 8, frz := [(1, [192])] }, rfrz := [], ts := [4] }
noncomputable def e_json_object_find (F : Nat) : Env El := (envS 236 (conOf TT s_slices_IndexFunc_json_object_json_member (M_slices_IndexFunc_json_object_json_member F)) envN)
noncomputable def M_json_object_find (F : Nat) (x : (List (El .me)) × (List UInt8)) : Option (Int) :=
 (M_slices_IndexFunc_json_object_json_member F (x.1, (x.2, ()), ())).bind fun v0 => some v0
theorem t_json_object_find (x : (List (El .me)) × (List UInt8)) (F : Nat) : fnRun TT Tryz.prog (e_json_object_find F) s_json_object_find (bodyOf 192) F x = M_json_object_find F x := by kernel_rfl
theorem c_json_object_find (F : Nat) : Ctr TT Tryz.prog 192 (conOf TT s_json_object_find (M_json_object_find F)) :=
 ctr_of (code := bodyOf 192) Tryz.func192 (by kernel_rfl) (by kernel_rfl) (by kernel_rfl) (by kernel_rfl) (envS_ok envN_ok (c_slices_IndexFunc_json_object_json_member F)) hm (by kernel_rfl) (fun x r h => ⟨F, (t_json_object_find x F).trans h⟩)
end Go.Vm
/- Models of functions of the program, and that each keeps its contract: for all arguments of its shape. No condition. -/
namespace Go.Vm
open Go.Proofs
set_option linter.unusedVariables false
namespace Srt
open Go.Proofs Go.Shelf Go.RowKit Go.Sort Go.Lib
def r_ren : Ren := ⟨fun | 14 => 283 | 15 => 284 | 20 => 298 | 21 => 299 | 22 => 300 | 23 => 301 | 24 => 302 | 25 => 303 | 26 => 304 | 27 => 305 | 28 => 306 | 29 => 292 | 46 => 312 | 47 => 313 | 48 => 314 | 49 => 315 | 50 => 316 | 57 => 317 | n => n, fun | 0 => 0 | 3 => 3 | 4 => 4 | 5 => 5 | 9 => 9 | 22 => 202 | 24 => 206 | 25 => 248 | 39 => 228 | 45 => 286 | 46 => 287 | 50 => 163 | 53 => 252 | 55 => 250 | 66 => 299 | 70 => 303 | 76 => 307 | 77 => 221 | n => n, fun n => n⟩
theorem r_lays : SlLaysF0.n14 Tryz.prog r_ren := { mixed := (by kernel_rfl), f14 := ⟨_, by kernel_rfl, Tryz.func283⟩, f15 := Tryz.func284.trans (congrArg some (by kernel_rfl)), f20 := ⟨_, by kernel_rfl, Tryz.func298⟩, f21 := ⟨_, by kernel_rfl, Tryz.func299⟩, f22 := ⟨_, by kernel_rfl, Tryz.func300⟩, f23 := ⟨_, by kernel_rfl, Tryz.func301⟩, f24 := ⟨_, by kernel_rfl, Tryz.func302⟩, f25 := ⟨_, by kernel_rfl, Tryz.func303⟩, f26 := ⟨_, by kernel_rfl, Tryz.func304⟩, f27 := ⟨_, by kernel_rfl, Tryz.func305⟩, f28 := Tryz.func306.trans (congrArg some (by kernel_rfl)), f29 := Tryz.func292.trans (congrArg some (by kernel_rfl)), f46 := ⟨_, by kernel_rfl, Tryz.func312⟩, f47 := Tryz.func313.trans (congrArg some (by kernel_rfl)), f48 := Tryz.func314.trans (congrArg some (by kernel_rfl)), f49 := ⟨_, by kernel_rfl, Tryz.func315⟩, f50 := ⟨_, by kernel_rfl, Tryz.func316⟩, f57 := ⟨_, by kernel_rfl, Tryz.func317⟩, t0 := Tryz.underlying0, a0 := Tryz.isAgg0, z0 := Tryz.sizeOf0, v0 := Tryz.zeroValue0, t3 := Tryz.underlying3, a3 := Tryz.isAgg3, z3 := Tryz.sizeOf3, v3 := Tryz.zeroValue3, t4 := Tryz.underlying4, a4 := Tryz.isAgg4, z4 := Tryz.sizeOf4, v4 := Tryz.zeroValue4, t5 := Tryz.underlying5, a5 := Tryz.isAgg5, z5 := Tryz.sizeOf5, v5 := Tryz.zeroValue5, t9 := Tryz.underlying9, a9 := Tryz.isAgg9, z9 := Tryz.sizeOf9, v9 := Tryz.zeroValue9, t22 := Tryz.underlying202, a22 := Tryz.isAgg202, z22 := Tryz.sizeOf202, v22 := Tryz.zeroValue202, t25 := Tryz.underlying248, a25 := Tryz.isAgg248, z25 := Tryz.sizeOf248, v25 := Tryz.zeroValue248, t39 := Tryz.underlying228, a39 := Tryz.isAgg228, z39 := Tryz.sizeOf228, v39 := Tryz.zeroValue228, t45 := Tryz.underlying286, a45 := Tryz.isAgg286, z45 := Tryz.sizeOf286, v45 := Tryz.zeroValue286, t46 := Tryz.underlying287, a46 := Tryz.isAgg287, z46 := Tryz.sizeOf287, v46 := Tryz.zeroValue287, t50 := Tryz.underlying163, a50 := Tryz.isAgg163, z50 := Tryz.sizeOf163, v50 := Tryz.zeroValue163, t53 := Tryz.underlying252, a53 := Tryz.isAgg252, z53 := Tryz.sizeOf252, v53 := Tryz.zeroValue252, t55 := Tryz.underlying250, a55 := Tryz.isAgg250, z55 := Tryz.sizeOf250, v55 := Tryz.zeroValue250, t66 := Tryz.underlying299, a66 := Tryz.isAgg299, z66 := Tryz.sizeOf299, v66 := Tryz.zeroValue299, t70 := Tryz.underlying303, a70 := Tryz.isAgg303, z70 := Tryz.sizeOf303, v70 := Tryz.zeroValue303, t76 := Tryz.underlying307, a76 := Tryz.isAgg307, z76 := Tryz.sizeOf307, v76 := Tryz.zeroValue307, t77 := Tryz.underlying221, a77 := Tryz.isAgg221, z77 := Tryz.sizeOf221, v77 := Tryz.zeroValue221 }
theorem isnan (x : ByteArray) (w : World) : Calls Tryz.prog 285 #[.string x] w fun e w' => e = .returned (.bool false) ∧ w' = w := by
 go_enter Tryz.func285, Tryz.ntmps285
 go_wp2
 go_ret
 exact ⟨by simp, rfl⟩
set_option maxHeartbeats 1000000 in
theorem compare (x y : ByteArray) (w : World) : Calls Tryz.prog 256 #[.string x, .string y] w fun e w' => e = .returned (.int .i64 (cmpS x y)) ∧ w' = w := by
 go_enter Tryz.func256, Tryz.ntmps256
 go_wp2_with (go_at_call 285; refine (isnan _ _).mono ?_; rintro e w' ⟨rfl, hw⟩; rw [hw])
 all_goals (go_ret; refine ⟨?_, rfl⟩; unfold cmpS; simp_all)
set_option maxHeartbeats 1000000 in
theorem closure (x y : Sub2) (W : World) : Calls Tryz.prog 255 #[.agg #[.string x.1.1, x.1.2], .agg #[.string y.1.1, y.1.2]] W fun e w' => e = .returned (.int .i64 (cmpS x.1.1 y.1.1)) ∧ ∃ q os', w' = grow (W.drewN q) os' := by
 obtain ⟨⟨x, u⟩, hu⟩ := x
 obtain ⟨⟨y, v⟩, hv⟩ := y
 have hcon := fun W' => compare x y W'
 generalize cmpS x y = r at hcon ⊢
 go_enter Tryz.func255, Tryz.ntmps255
 go_wp2_with (go_at_call 256; refine (hcon _).mono ?_; rintro e w' ⟨rfl, rfl⟩)
 go_ret
 exact ⟨rfl, 0, _, by rw [alloc_eq_grow, alloc_eq_grow, grow_grow]; rfl⟩
theorem aggE (w : World) : (isAgg 206).run Tryz.prog w = .ok true w := Tryz.isAgg206 w
theorem sizeE (w : World) : (Go.sizeOf 206).run Tryz.prog w = .ok 2 w := Tryz.sizeOf206 w
theorem lays : ∀ (blk off size : Nat) (w : World), CmpLays Tryz.prog 255 #[] encS 2 cfS blk off size w := fun _ _ _ _ _ _ _ _ x y => closure x y _
set_option maxHeartbeats 2000000 in
set_option maxRecDepth 100000 in
theorem none_ (w : World) : Calls Tryz.prog 254 #[.slice none 0 0, .func (.func 255) #[] #[]] w fun e w' => e = .returned (.tuple #[]) ∧ w' = w := by
 have hl : ∀ W, Calls Tryz.prog 284 #[.int .u64 0] W fun e w' => e = .returned (.int .i64 (Lib.bitLen 0 : Nat)) ∧ w' = W := fun W => Any.bits_Len (SlLaysF0.n15.bits (P := Tryz.prog) (ρ := r_ren) { r_lays with }) 0 W (by omega) (by omega)
 have hp := fun (lim : Int) W => AnyF.pdqsortCmpFunc_none (P := Tryz.prog) (ρ := r_ren) r_lays none 0 lim (.func (.func 255) #[] #[]) W
 go_enter Tryz.func254, Tryz.ntmps254
 go_wp2_with (first | (go_at_call 284; refine (hl _).mono ?_; rintro e w' ⟨rfl, rfl⟩) | (go_at_call 283; refine (hp _ _).mono ?_; rintro e w' ⟨rfl, rfl⟩))
 go_end0
 exact ⟨rfl, rfl⟩
set_option maxHeartbeats 2000000 in
set_option maxRecDepth 100000 in
theorem some_ (gg cap : Nat) (d : Array Sub2) (w : World) (hH : HoldsK encS 2 w gg 0 d) (hblk : gg < w.heap.size) (hsz : d.size < 4611686018427387904) :
  Calls Tryz.prog 254 #[.slice (some ⟨gg, 0, none⟩) d.size cap, .func (.func 255) #[] #[]] w fun e w' => e = .returned (.tuple #[]) ∧ ∃ d' n os, PermIn 0 d.size d d' ∧ SortedIn (ltOf cfS) 0 d.size d' ∧ w' = sortWorldK encS 2 w gg 0 n d' os := by
 have eg : ∀ args w, (callFunc 255 args).run Tryz.prog w = .ok (.enter 255 args) w := enters_of Tryz.func255 (by kernel_rfl) rfl
 have hlim : Lib.bitLen d.size < 4611686018427387904 := Nat.lt_of_le_of_lt (Lib.bitLen_le d.size 62 (by omega) (by omega)) (by omega)
 have hp := AnyQ.pdqsortCmpFunc_all (P := Tryz.prog) (ρ := r_ren) r_lays 2 aggE sizeE encS cfS 255 #[] swoS gg 0 cap d w eg (lays _ _ _ _) ⟨(fun _ => rfl), (fun x v hv => by
  simp only [encS, List.mem_cons, List.not_mem_nil, or_false] at hv
  rcases hv with rfl | rfl
  ·rfl
  ·exact x.2), hH, hblk⟩ (d.size + 1) 0 d.size (Lib.bitLen d.size) d w (by omega) rfl (SWK.start hH) (Nat.zero_le _) (Nat.le_refl _) hsz hlim (Or.inl rfl)
 have hl : Calls Tryz.prog 284 #[.int .u64 (d.size : Int)] w fun e w' => e = .returned (.int .i64 (Lib.bitLen d.size : Nat)) ∧ w' = w := by
  have h := Any.bits_Len (SlLaysF0.n15.bits (P := Tryz.prog) (ρ := r_ren) { r_lays with }) (d.size : Int) w (by omega) (by omega)
  rwa [Int.toNat_natCast] at h
 have wr : IntKind.u64.wrap (d.size : Int) = d.size := by simp [IntKind.wrap, IntKind.bits, IntKind.signed]; omega
 have hsort := pdq_sorts (ltOf cfS) swoS d 0 d.size (Lib.bitLen d.size) true true (Nat.zero_le _) (Nat.le_refl _) (Or.inl rfl)
 generalize pdq (ltOf cfS) d 0 d.size (Lib.bitLen d.size) true true = dd at hp hsort
 clear hH
 change Calls Tryz.prog 283 _ _ _ at hp
 go_enter Tryz.func254, Tryz.ntmps254
 go_wp2_with (first | (go_at_call 284; refine hl.mono ?_; rintro e w' ⟨rfl, rfl⟩) | (go_at_call 283; refine hp.mono ?_; rintro e w' ⟨rfl, n, os, rfl⟩))
 go_end0
 exact ⟨rfl, dd, n, os, hsort.1, hsort.2, rfl⟩
end Srt
noncomputable def s_slices_SortFunc_json_object_json_member : Spec Kd := sSortM 206 255
noncomputable def M_slices_SortFunc_json_object_json_member (F : Nat) (x : (List Me × Unit) × Unit) : Option (Unit × (List Me × Unit)) := MSortM x
theorem c_slices_SortFunc_json_object_json_member (F : Nat) : Ctr TT Tryz.prog 254 (conOf TT s_slices_SortFunc_json_object_json_member (M_slices_SortFunc_json_object_json_member F)) := ctr_sortM (kt := kt) Srt.none_ Srt.some_ Tryz.func254 (by kernel_rfl) (by kernel_rfl)
end Go.Vm
