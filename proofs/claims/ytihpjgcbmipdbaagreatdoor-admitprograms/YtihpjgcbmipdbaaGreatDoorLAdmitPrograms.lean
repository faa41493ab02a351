/- The law concierge/conciergelaw28.AdmitPrograms: for every input it answers true. No condition. -/
import Derived.Test.YtihpjgcbmipdbaaGreatDoorLFAdmitPrograms
import Derived.Test.YtihpjgcbmipdbaaGreatDoorTie
import Derived.Test.YtihpjgcbmipdbaaGreatDoorCards
import Derived.Lay
import Derived.LaidLaws
import Derived.LaidOnce
import Derived.SevenTiedAt
import Derived.MakeChecks
import Derived.Handed
import Derived.Test.YtihpjgcbmipdbaaGreatDoorRows
import Derived.Test.YtihpjgcbmipdbaaGreatDoorFlaw28
import Derived.Test.YtihpjgcbmipdbaaGreatDoorPad3
import Derived.WalkKit
import Derived.ProofKit
import Derived.OpenShut
import Derived.ShutString
import Derived.ChangeOld
import Derived.Below
import Derived.SizedLaws
import Derived.SliceStrings
import Derived.WideKeyPair
namespace Go.Proofs.YtihpjgcbmipdbaaGreatDoor.admitPrograms
open Go.ChangeShapes Go.WideShapes Go.ChangeAt Go.RowKit
open Go.ChangeMaps (open_string shut_string)
set_option linter.unusedVariables false
theorem own:ownKnob Tryz.prog.godebug=none:=by kernel_rfl
theorem laidOut:laidOutB Tryz.prog=true:=by kernel_rfl
theorem N5:Go.WideMaps.ArrKey Tryz.prog 36 3 2:=⟨Tryz.underlying36,by kernel_rfl,by kernel_rfl,by kernel_rfl⟩
theorem AA {H:Type} {enc:TypeId×Value→H} {W:World} {base:Nat} {sp:Nat→Bool} {held:Bool}:Go.Vm.qg (Go.Vm.Df W) Go.Vm.kt enc Tryz.prog W base sp held 35 [(.int .i64), .str,(.int .i64),(.int .i64),(.int .i64),(.int .i64), .str,(.int .i64),(.int .i64),(.int .i64), .str, .str, .str, .str] :=
 (Go.Vm.gJ Tryz.underlying35 (by kernel_rfl) (Go.Vm.aR.cons (s := [(.int .i64)]) (s' := [.str,(.int .i64),(.int .i64),(.int .i64),(.int .i64), .str,(.int .i64),(.int .i64),(.int .i64), .str, .str, .str, .str]) rfl (by kernel_rfl) (Go.Vm.dK Tryz.underlying3 (by decide)) (Go.Vm.aR.cons (s := [.str]) (s' := [(.int .i64),(.int .i64),(.int .i64),(.int .i64), .str,(.int .i64),(.int .i64),(.int .i64), .str, .str, .str, .str]) rfl (by kernel_rfl) (Go.Vm.cr Tryz.underlying9) (Go.Vm.aR.cons (s := [(.int .i64)]) (s' := [(.int .i64),(.int .i64),(.int .i64), .str,(.int .i64),(.int .i64),(.int .i64), .str, .str, .str, .str]) rfl (by kernel_rfl) (Go.Vm.dK Tryz.underlying3 (by decide)) (Go.Vm.aR.cons (s := [(.int .i64)]) (s' := [(.int .i64),(.int .i64), .str,(.int .i64),(.int .i64),(.int .i64), .str, .str, .str, .str]) rfl (by kernel_rfl) (Go.Vm.dK Tryz.underlying3 (by decide)) (Go.Vm.aR.cons (s := [(.int .i64)]) (s' := [(.int .i64), .str,(.int .i64),(.int .i64),(.int .i64), .str, .str, .str, .str]) rfl (by kernel_rfl) (Go.Vm.dK Tryz.underlying3 (by decide)) (Go.Vm.aR.cons (s := [(.int .i64)]) (s' := [.str,(.int .i64),(.int .i64),(.int .i64), .str, .str, .str, .str]) rfl (by kernel_rfl) (Go.Vm.dK Tryz.underlying3 (by decide)) (Go.Vm.aR.cons (s := [.str]) (s' := [(.int .i64),(.int .i64),(.int .i64), .str, .str, .str, .str]) rfl (by kernel_rfl) (Go.Vm.cr Tryz.underlying9) (Go.Vm.aR.cons (s := [(.int .i64)]) (s' := [(.int .i64),(.int .i64), .str, .str, .str, .str]) rfl (by kernel_rfl) (Go.Vm.dK Tryz.underlying3 (by decide)) (Go.Vm.aR.cons (s := [(.int .i64)]) (s' := [(.int .i64), .str, .str, .str, .str]) rfl (by kernel_rfl) (Go.Vm.dK Tryz.underlying3 (by decide)) (Go.Vm.aR.cons (s := [(.int .i64)]) (s' := [.str, .str, .str, .str]) rfl (by kernel_rfl) (Go.Vm.dK Tryz.underlying3 (by decide)) (Go.Vm.aR.cons (s := [.str]) (s' := [.str, .str, .str]) rfl (by kernel_rfl) (Go.Vm.cr Tryz.underlying9) (Go.Vm.aR.cons (s := [.str]) (s' := [.str, .str]) rfl (by kernel_rfl) (Go.Vm.cr Tryz.underlying9) (Go.Vm.aR.cons (s := [.str]) (s' := [.str]) rfl (by kernel_rfl) (Go.Vm.cr Tryz.underlying9) (Go.Vm.aR.cons (s := [.str]) (s' := []) rfl (by kernel_rfl) (Go.Vm.cr Tryz.underlying9) (Go.Vm.aR.nil _))))))))))))))))
theorem Al {H:Type} {enc:TypeId×Value→H} {W:World} {base:Nat} {sp:Nat→Bool} {held:Bool}:Go.Vm.qg (Go.Vm.Df W) Go.Vm.kt enc Tryz.prog W base sp held 24 [(.slc .rl)] :=
 (Go.Vm.lU (S:=fun _=>True) .rl Tryz.underlying24 (by kernel_rfl) rfl (by decide) (Go.Vm.gJ Tryz.underlying95 (by kernel_rfl) (Go.Vm.aR.cons (s := [.str]) (s' := [.str,(.slc .ph)]) rfl (by kernel_rfl) (Go.Vm.cr Tryz.underlying9) (Go.Vm.aR.cons (s := [.str]) (s' := [(.slc .ph)]) rfl (by kernel_rfl) (Go.Vm.cr Tryz.underlying9) (Go.Vm.aR.cons (s := [(.slc .ph)]) (s' := []) rfl (by kernel_rfl) (Go.Vm.lU (S:=fun _=>True) .ph Tryz.underlying27 (by kernel_rfl) rfl (by decide) (Go.Vm.gJ Tryz.underlying62 (by kernel_rfl) (Go.Vm.aR.cons (s := [(.int .i64)]) (s' := [.str,(.int .i64), .str]) rfl (by kernel_rfl) (Go.Vm.dK Tryz.underlying3 (by decide)) (Go.Vm.aR.cons (s := [.str]) (s' := [(.int .i64), .str]) rfl (by kernel_rfl) (Go.Vm.cr Tryz.underlying9) (Go.Vm.aR.cons (s := [(.int .i64)]) (s' := [.str]) rfl (by kernel_rfl) (Go.Vm.dK Tryz.underlying3 (by decide)) (Go.Vm.aR.cons (s := [.str]) (s' := []) rfl (by kernel_rfl) (Go.Vm.cr Tryz.underlying9) (Go.Vm.aR.nil _)))))) (fun x=>x) (fun x=>rfl) (fun _ _ _=>trivial)) (Go.Vm.aR.nil _))))) (fun x=>x) (fun x=>rfl) (fun _ _ _=>trivial))
def laid:List (String×DataW Unit) := [("math/bits.deBruijn32tab",Rows.laid_math_bits_deBruijn32tab),("math/bits.deBruijn64tab",Rows.laid_math_bits_deBruijn64tab),("internal/strconv.uint64pow10",Rows.laid_internal_strconv_uint64pow10),("unicode/utf8.acceptRanges",Rows.laid_unicode_utf8_acceptRanges),("strconv.ErrRange",Rows.laid_strconv_ErrRange),("strconv.ErrSyntax",Rows.laid_strconv_ErrSyntax),("unicode/utf8.first",Rows.laid_unicode_utf8_first)]
set_option maxRecDepth 100000 in
theorem glOf {w:World} (h0:laidMetH Tryz.prog laid w) (hS:w.ShapedOpen Tryz.prog):Go.Vm.kt.gl w:=by
 have h:laidMet Tryz.prog laid w:=by rw [← MakeChecks.laidMetH_plain _ _ _ (by kernel_rfl)]; exact h0
 have t0:=Go.Vm.uG h (name := "internal/strconv.uint64pow10") (k := .u64) (zs:=Go.Lib.pow10Tab) (List.mem_of_getElem? (i:=2) rfl) (by kernel_rfl) (g:=5) (by kernel_rfl) rfl rfl rfl (by kernel_rfl) (by kernel_rfl)
 have e0:=Go.Vm.lT h (name := "strconv.ErrSyntax") (List.mem_of_getElem? (i:=5) rfl) (g:=3) (by kernel_rfl) rfl rfl
 have e1:=Go.Vm.lT h (name := "strconv.ErrRange") (List.mem_of_getElem? (i:=4) rfl) (g:=4) (by kernel_rfl) rfl rfl
 have u0:=Go.Vm.sK (ρ:=Go.Vm.Trm.ez) ({ Go.Vm.Trm.fU with }:U8Types Tryz.prog Go.Vm.Trm.ez) ⟨by kernel_rfl,by kernel_rfl,by kernel_rfl,by kernel_rfl,by kernel_rfl,by kernel_rfl,by kernel_rfl⟩ h (List.mem_of_getElem? (i:=6) (by kernel_rfl)) (List.mem_of_getElem? (i:=3) (by kernel_rfl))
 have i0:=Go.Proofs.cell_of_shapedOpen_int (g:=0) hS (of_decide_eq_true (by kernel_rfl)) (zero := #[.int .i64 0]) (t:=3) (by kernel_rfl) rfl (by kernel_rfl) (by kernel_rfl) Tryz.underlying3
 refine ⟨(Go.Vm.wO (by kernel_rfl) t0 0).2,fun x hx => ?_,fun g hg => ?_,⟨u0,fun g hg=>by simp only [List.mem_cons,List.not_mem_nil,or_false] at hg; rcases hg with rfl <;> first | exact i0⟩⟩
 ·simp only [List.mem_cons,List.not_mem_nil,or_false] at hx
  rcases hx with rfl
  ·exact t0
 ·simp only [List.mem_cons,List.not_mem_nil,or_false] at hg
  rcases hg with rfl | rfl
  ·exact e0.1
  ·exact e1.1
set_option maxHeartbeats 2000000 in
set_option maxRecDepth 100000 in
theorem lifted (os:Os) (started:os.Started) (H:Type) (enc:TypeId×Value→H) :
  ReturnsInHanded {} Tryz.checked os 5 .any (fun w args=>(Rows.admitProgramsSpec.pre enc Tryz.prog Tryz.f5 [] false w args∧laidMetH Tryz.prog laid w)∧sizedMet enc Tryz.prog Tryz.f5 (OpenSpec.ofChange Rows.admitProgramsSpec) false w args) (Rows.admitProgramsSpec.post enc Tryz.prog Tryz.f5 false true false false):=by
 refine Go.Vm.re (C:=Tryz.checked) (X:=fun w _=>laidMetH Tryz.prog laid w) (fun _ _ _ hh h=>h.of_heap hh) own started (by kernel_rfl) Tryz.func5
  (ChangeSpec.witness_shaped (enc:=enc) (C:=Tryz.checked) (os:=os) (X:=fun w _=>laidMetH Tryz.prog laid w) false (World.laidAll Tryz.prog os laid) #[.slice none 0 0, .agg #[.int .i64 0, .string ByteArray.empty, .int .i64 0, .int .i64 0, .int .i64 0, .int .i64 0, .string ByteArray.empty, .int .i64 0, .int .i64 0, .int .i64 0, .string ByteArray.empty, .string ByteArray.empty, .string ByteArray.empty, .string ByteArray.empty], .agg #[.int .i64 0, .int .i64 0]] 8 (World.laidAll_os _ _ _)
   (World.shaped_of_ZipB (by kernel_rfl) (by kernel_rfl)) (by kernel_rfl) (by kernel_rfl) (by kernel_rfl)
   (by rw [MakeChecks.laidMetH_plain _ _ _ (by kernel_rfl)]; exact laidMet_laidAll _ (by kernel_rfl) (by kernel_rfl))) ?_
 intro W base args ds gs before hval0 hW hcnd hsz0 hL hS _
 have hsz:(DataW.weightsEach Tryz.prog (Tryz.f5.params.toList ++ Rows.admitProgramsSpec.plain.varTypes Tryz.prog) (ds ++ gs)).all (· ≤ reachBytes)=true:=hsz0
 have hval : ∀ (j:Nat) t v,Tryz.f5.params[j]? = some t→args[j]? = some v→Value.okWide Tryz.prog W .any base t v:=hval0
 have hW':=hW
 obtain ⟨p,q,hA0,hV,rfl,hfz,hnd⟩:=hW
 have hA:DataW.TrodAll enc Tryz.prog W 0 (fun _=>true) true Tryz.f5.params.toList args.toList ds p:=hA0
 rw [Tryz.params5] at hA hval hsz
 obtain ⟨v0,vs0,d0,ds0,p0,q0,hargs,rfl,rfl,h0,r0⟩:=trodAll_cons hA
 obtain ⟨v1,vs1,d1,ds1,p1,q1,rfl,rfl,rfl,h1,r1⟩:=trodAll_cons r0
 obtain ⟨v2,vs2,d2,ds2,p2,q2,rfl,rfl,rfl,h2,r2⟩:=trodAll_cons r1
 obtain ⟨rfl,rfl,rfl⟩:=trodAll_nil r2
 obtain rfl:args = #[v0,v1,v2]:=by cases args; simp_all
 obtain ⟨rfl,rfl⟩:=trodVars_none hV
 obtain ⟨b0,len0,cap0,rfl⟩:=okWide_slice Tryz.underlying24 (hval 0 24 v0 rfl rfl)
 have k0:=h0
 have lt0 : ∀ x∈p0,x.block<W.heap.size:=by obtain ⟨m,hm⟩:=k0; exact DataW.trod_lt m _ _ _ hm
 obtain ⟨x0,rr0⟩:=Go.Vm.sL Al (hval 0 24 _ rfl rfl) h0
 obtain ⟨a0_0,⟨⟩⟩:=x0
 obtain ⟨cs1,rfl,hz1⟩:=okWide_struct Tryz.underlying35 (hval 1 35 v1 rfl rfl)
 have k1:=h1
 have lt1 : ∀ x∈p1,x.block<W.heap.size:=by obtain ⟨m,hm⟩:=k1; exact DataW.trod_lt m _ _ _ hm
 obtain ⟨x1,rr1⟩:=Go.Vm.sL AA (hval 1 35 _ rfl rfl) h1
 obtain ⟨a1_0,a1_1,a1_2,a1_3,a1_4,a1_5,a1_6,a1_7,a1_8,a1_9,a1_10,a1_11,a1_12,a1_13,⟨⟩⟩:=x1
 obtain ⟨a2,b2,rfl,rfl,rfl,w2,x2⟩:=Go.WideMaps.open_pair N5 Tryz.underlying3 (hval 2 36 v2 rfl rfl) h2
 clear hA0 hval0 hsz0 hsz
 obtain ⟨F,hF⟩:=Go.Vm.pure_conciergelaw28_AdmitPrograms a0_0 (a1_0,a1_1,a1_2,a1_3,a1_4,a1_5,a1_6,a1_7,a1_8,a1_9,a1_10,a1_11,a1_12,a1_13,()) a2 b2
 refine (Go.Vm.y9 (Go.Vm.jK F) Tryz.func5 (by kernel_rfl) (by kernel_rfl) hF (ds := [.slc .rl a0_0, .agg (Go.Vm.iA [(.int .i64), .str,(.int .i64),(.int .i64),(.int .i64),(.int .i64), .str,(.int .i64),(.int .i64),(.int .i64), .str, .str, .str, .str] (a1_0,a1_1,a1_2,a1_3,a1_4,a1_5,a1_6,a1_7,a1_8,a1_9,a1_10,a1_11,a1_12,a1_13,())), .arr 2 .i64 [a2,b2]]) rfl rfl (Go.Vm.wk (Go.Vm.Fz rr0) rfl (Go.Vm.wk (Go.Vm.Cz rr1) rfl (Go.Vm.wk (Go.Vm.JL a2 b2) rfl Go.Vm.fC.nil))) (glOf hL hS)).mono fun e W' ⟨he,bel⟩ => ?_
 subst he
 exact ⟨_,rfl,_,_,_,[],_,[],hW',trodAll_mk1 (shut_bool Tryz.underlying4 _),(trodAll_cons_mk (Below.trod laidOut (by kernel_rfl) (of_decide_eq_true (by kernel_rfl)) k0 bel lt0) (trodAll_cons_mk (Below.trod laidOut (by kernel_rfl) (of_decide_eq_true (by kernel_rfl)) k1 bel lt1) (trodAll_cons_mk (Go.WideMaps.shut_pair N5 Tryz.underlying3 w2 x2) trodAll_mk0))),rfl,bel.frame _,fun h=>by cases h⟩
theorem over:Rows.admitProgramsRow.holds Tryz.pinned (OpenSpec.ofChange Rows.admitProgramsSpec) :=
 OpenClaim.holds_of_wide 5 Tryz.f5 rfl rfl rfl rfl rfl rfl rfl ⟨rfl,rfl,rfl,rfl,rfl⟩ rfl rfl rfl rfl rfl (by kernel_rfl) Tryz.func5 closed
  (of_decide_eq_true (by kernel_rfl)) (by unfold Func.isWrapper; first | (rw [if_pos (by decide +kernel)]; kernel_rfl) | (rw [if_neg (by decide +kernel)]; exact ⟨rfl,rfl⟩))
  (fun os started H enc _=>lifted os started H enc)
theorem proved:Rows.AdmitProgramsCardSaid :=
 Claim7.holds_tied_plain_at .later [] [.data, .data, .data, .data, .sentinel, .sentinel, .pinned] true (true, "da3935492ec0576d79377b831898b91da89cf9fc61f90531614775ded8e42c8c") true over (fun _ h=>by cases h) Em (fun _ h=>by cases h) Go.Proofs.YtihpjgcbmipdbaaGreatDoor.admitPrograms_row_tie rfl ⟨rfl,rfl⟩ mainIs rfl
  (fun f fn hf hfn=>by
   obtain rfl:f=5:=Option.some.inj (BB.symm.trans hf) |>.symm
   obtain rfl:fn=Tryz.f5:=(Option.some.inj (Tryz.func5.symm.trans hfn)).symm
   exact ⟨looksAt,fun j t ht=>by
    rw [Tryz.params5] at ht
    have hm:t ∈ [24,35,36]:=by simpa using Array.mem_of_getElem? ht
    exact (show Tryz.prog.wantsStandIn t=false by simpa using List.all_eq_true.1 A3 t hm)⟩)
  goesBy
end Go.Proofs.YtihpjgcbmipdbaaGreatDoor.admitPrograms
namespace Go.Proofs.YtihpjgcbmipdbaaGreatDoor
theorem admitPrograms_holds:Rows.AdmitProgramsCardSaid:=admitPrograms.proved
#print axioms admitPrograms_holds
end Go.Proofs.YtihpjgcbmipdbaaGreatDoor
