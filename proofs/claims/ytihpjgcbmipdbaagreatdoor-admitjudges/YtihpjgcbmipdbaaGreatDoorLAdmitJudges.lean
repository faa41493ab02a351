import Derived.Test.YtihpjgcbmipdbaaGreatDoorLFAdmitJudges
import Derived.Test.YtihpjgcbmipdbaaGreatDoorTie
import Derived.Test.YtihpjgcbmipdbaaGreatDoorCards
import Derived.Lay
import Derived.LaidLaws
import Derived.LaidOnce
import Derived.SevenTiedAt
import Derived.MakeChecks
import Derived.Handed
import Derived.Test.YtihpjgcbmipdbaaGreatDoorRows
import Derived.Test.YtihpjgcbmipdbaaGreatDoorPad3
import Derived.WalkKit
import Derived.ProofKit
import Derived.OpenShut
import Derived.ShutString
import Derived.ChangeOld
import Derived.Below
import Derived.SizedLaws
import Derived.SliceStrings
import Derived.WideKeyPair
namespace Go.Proofs.YtihpjgcbmipdbaaGreatDoor.admitJudges
open Go.ChangeShapes Go.WideShapes Go.ChangeAt Go.RowKit
open Go.ChangeMaps (open_string shut_string)
set_option linter.unusedVariables false
theorem own:ownKnob Tryz.prog.godebug=none:=by kernel_rfl
theorem laidOut:laidOutB Tryz.prog=true:=by kernel_rfl
theorem Rt {H:Type} {enc:TypeId×Value→H} {W:World} {base:Nat} {sp:Nat→Bool} {held:Bool}:Go.Vm.wO (Go.Vm.MJ W) Go.Vm.kt enc Tryz.prog W base sp held 24 [(.slc .rl)] :=
 (Go.Vm.zf (S:=fun _=>True) .rl Tryz.underlying24 (by kernel_rfl) rfl (by decide) (Go.Vm.qW Tryz.underlying95 (by kernel_rfl) (Go.Vm.gx.cons (s := [.str]) (s' := [.str,(.slc .ph)]) rfl (by kernel_rfl) (Go.Vm.kj Tryz.underlying9) (Go.Vm.gx.cons (s := [.str]) (s' := [(.slc .ph)]) rfl (by kernel_rfl) (Go.Vm.kj Tryz.underlying9) (Go.Vm.gx.cons (s := [(.slc .ph)]) (s' := []) rfl (by kernel_rfl) (Go.Vm.zf (S:=fun _=>True) .ph Tryz.underlying27 (by kernel_rfl) rfl (by decide) (Go.Vm.qW Tryz.underlying62 (by kernel_rfl) (Go.Vm.gx.cons (s := [(.int .i64)]) (s' := [.str,(.int .i64), .str]) rfl (by kernel_rfl) (Go.Vm.pG Tryz.underlying3 (by decide)) (Go.Vm.gx.cons (s := [.str]) (s' := [(.int .i64), .str]) rfl (by kernel_rfl) (Go.Vm.kj Tryz.underlying9) (Go.Vm.gx.cons (s := [(.int .i64)]) (s' := [.str]) rfl (by kernel_rfl) (Go.Vm.pG Tryz.underlying3 (by decide)) (Go.Vm.gx.cons (s := [.str]) (s' := []) rfl (by kernel_rfl) (Go.Vm.kj Tryz.underlying9) (Go.Vm.gx.nil _)))))) (fun x=>x) (fun x=>rfl) (fun _ _ _=>trivial)) (Go.Vm.gx.nil _))))) (fun x=>x) (fun x=>rfl) (fun _ _ _=>trivial))
theorem Sm {H:Type} {enc:TypeId×Value→H} {W:World} {base:Nat} {sp:Nat→Bool} {held:Bool}:Go.Vm.wO (Go.Vm.MJ W) Go.Vm.kt enc Tryz.prog W base sp held 23 [(.int .i64),(.int .i64),(.int .i64), .str, .str, .str, .str] :=
 (Go.Vm.qW Tryz.underlying23 (by kernel_rfl) (Go.Vm.gx.cons (s := [(.int .i64)]) (s' := [(.int .i64),(.int .i64), .str, .str, .str, .str]) rfl (by kernel_rfl) (Go.Vm.pG Tryz.underlying3 (by decide)) (Go.Vm.gx.cons (s := [(.int .i64)]) (s' := [(.int .i64), .str, .str, .str, .str]) rfl (by kernel_rfl) (Go.Vm.pG Tryz.underlying3 (by decide)) (Go.Vm.gx.cons (s := [(.int .i64)]) (s' := [.str, .str, .str, .str]) rfl (by kernel_rfl) (Go.Vm.pG Tryz.underlying3 (by decide)) (Go.Vm.gx.cons (s := [.str]) (s' := [.str, .str, .str]) rfl (by kernel_rfl) (Go.Vm.kj Tryz.underlying9) (Go.Vm.gx.cons (s := [.str]) (s' := [.str, .str]) rfl (by kernel_rfl) (Go.Vm.kj Tryz.underlying9) (Go.Vm.gx.cons (s := [.str]) (s' := [.str]) rfl (by kernel_rfl) (Go.Vm.kj Tryz.underlying9) (Go.Vm.gx.cons (s := [.str]) (s' := []) rfl (by kernel_rfl) (Go.Vm.kj Tryz.underlying9) (Go.Vm.gx.nil _)))))))))
def laid:List (String×DataW Unit) := [("math/bits.deBruijn32tab",Rows.laid_math_bits_deBruijn32tab),("math/bits.deBruijn64tab",Rows.laid_math_bits_deBruijn64tab),("internal/strconv.uint64pow10",Rows.laid_internal_strconv_uint64pow10),("unicode/utf8.acceptRanges",Rows.laid_unicode_utf8_acceptRanges),("strconv.ErrRange",Rows.laid_strconv_ErrRange),("strconv.ErrSyntax",Rows.laid_strconv_ErrSyntax),("unicode/utf8.first",Rows.laid_unicode_utf8_first)]
set_option maxRecDepth 100000 in
theorem glOf {w:World} (h0:laidMetH Tryz.prog laid w) (hS:w.ShapedOpen Tryz.prog):Go.Vm.kt.gl w:=by
 have h:laidMet Tryz.prog laid w:=by rw [← MakeChecks.laidMetH_plain _ _ _ (by kernel_rfl)]; exact h0
 have t0:=Go.Vm.GU h (name := "internal/strconv.uint64pow10") (k := .u64) (zs:=Go.Lib.pow10Tab) (List.mem_of_getElem? (i:=2) rfl) (by kernel_rfl) (g:=5) (by kernel_rfl) rfl rfl rfl (by kernel_rfl) (by kernel_rfl)
 have e0:=Go.Vm.yu h (name := "strconv.ErrSyntax") (List.mem_of_getElem? (i:=5) rfl) (g:=3) (by kernel_rfl) rfl rfl
 have e1:=Go.Vm.yu h (name := "strconv.ErrRange") (List.mem_of_getElem? (i:=4) rfl) (g:=4) (by kernel_rfl) rfl rfl
 have u0:=Go.Vm.EI (ρ:=Go.Vm.Trm.gf) ({ Go.Vm.Trm.iO with }:U8Types Tryz.prog Go.Vm.Trm.gf) ⟨by kernel_rfl,by kernel_rfl,by kernel_rfl,by kernel_rfl,by kernel_rfl,by kernel_rfl,by kernel_rfl⟩ h (List.mem_of_getElem? (i:=6) (by kernel_rfl)) (List.mem_of_getElem? (i:=3) (by kernel_rfl))
 have i0:=Go.Proofs.cell_of_shapedOpen_int (g:=0) hS (of_decide_eq_true (by kernel_rfl)) (zero := #[.int .i64 0]) (t:=3) (by kernel_rfl) rfl (by kernel_rfl) (by kernel_rfl) Tryz.underlying3
 refine ⟨(Go.Vm.Hk (by kernel_rfl) t0 0).2,fun x hx => ?_,fun g hg => ?_,⟨u0,fun g hg=>by simp only [List.mem_cons,List.not_mem_nil,or_false] at hg; rcases hg with rfl <;> first | exact i0⟩⟩
 ·simp only [List.mem_cons,List.not_mem_nil,or_false] at hx
  rcases hx with rfl
  ·exact t0
 ·simp only [List.mem_cons,List.not_mem_nil,or_false] at hg
  rcases hg with rfl | rfl
  ·exact e0.1
  ·exact e1.1
set_option maxHeartbeats 2000000 in
set_option maxRecDepth 100000 in
theorem lifted (os:Os) (started:os.Started) (H:Type) (enc:TypeId×Value→H) :
  ReturnsInHanded {} Tryz.checked os 3 .any (fun w args=>(Rows.admitJudgesSpec.pre enc Tryz.prog Tryz.f3 [] false w args∧laidMetH Tryz.prog laid w)∧sizedMet enc Tryz.prog Tryz.f3 (OpenSpec.ofChange Rows.admitJudgesSpec) false w args) (Rows.admitJudgesSpec.post enc Tryz.prog Tryz.f3 false true false false):=by
 refine Go.Vm.Cj (C:=Tryz.checked) (X:=fun w _=>laidMetH Tryz.prog laid w) (fun _ _ _ hh h=>h.of_heap hh) own started (by kernel_rfl) Tryz.func3
  (ChangeSpec.witness_shaped (enc:=enc) (C:=Tryz.checked) (os:=os) (X:=fun w _=>laidMetH Tryz.prog laid w) false (World.laidAll Tryz.prog os laid) #[.agg #[.int .i64 0, .int .i64 0, .int .i64 0, .string ByteArray.empty, .string ByteArray.empty, .string ByteArray.empty, .string ByteArray.empty], .slice none 0 0] 8 (World.laidAll_os _ _ _)
   (World.shaped_of_ZipB (by kernel_rfl) (by kernel_rfl)) (by kernel_rfl) (by kernel_rfl) (by kernel_rfl)
   (by rw [MakeChecks.laidMetH_plain _ _ _ (by kernel_rfl)]; exact laidMet_laidAll _ (by kernel_rfl) (by kernel_rfl))) ?_
 intro W base args ds gs before TM hW aaQ Xt hL hS _
 have mh:(DataW.weightsEach Tryz.prog (Tryz.f3.params.toList ++ Rows.admitJudgesSpec.plain.varTypes Tryz.prog) (ds ++ gs)).all (· ≤ reachBytes)=true:=Xt
 have o7 : ∀ (j:Nat) t v,Tryz.f3.params[j]? = some t→args[j]? = some v→Value.okWide Tryz.prog W .any base t v:=TM
 have hW':=hW
 obtain ⟨p,q,ZQ,hV,rfl,zn,vD⟩:=hW
 have hA:DataW.TrodAll enc Tryz.prog W 0 (fun _=>true) true Tryz.f3.params.toList args.toList ds p:=ZQ
 rw [Tryz.params3] at hA o7 mh
 obtain ⟨v0,vs0,d0,ds0,p0,q0,rr,rfl,rfl,h0,r0⟩:=trodAll_cons hA
 obtain ⟨v1,vs1,d1,ds1,p1,q1,rfl,rfl,rfl,h1,r1⟩:=trodAll_cons r0
 obtain ⟨rfl,rfl,rfl⟩:=trodAll_nil r1
 obtain rfl:args = #[v0,v1]:=by cases args; simp_all
 obtain ⟨rfl,rfl⟩:=trodVars_none hV
 obtain ⟨cs0,rfl,QU⟩:=okWide_struct Tryz.underlying23 (o7 0 23 v0 rfl rfl)
 have k0:=h0
 have lt0 : ∀ x∈p0,x.block<W.heap.size:=by obtain ⟨m,hm⟩:=k0; exact DataW.trod_lt m _ _ _ hm
 obtain ⟨x0,rr0⟩:=Go.Vm.HE Sm (o7 0 23 _ rfl rfl) h0
 obtain ⟨a0_0,a0_1,a0_2,a0_3,a0_4,a0_5,a0_6,⟨⟩⟩:=x0
 obtain ⟨b1,len1,cap1,rfl⟩:=okWide_slice Tryz.underlying24 (o7 1 24 v1 rfl rfl)
 have k1:=h1
 have lt1 : ∀ x∈p1,x.block<W.heap.size:=by obtain ⟨m,hm⟩:=k1; exact DataW.trod_lt m _ _ _ hm
 obtain ⟨x1,rr1⟩:=Go.Vm.HE Rt (o7 1 24 _ rfl rfl) h1
 obtain ⟨a1_0,⟨⟩⟩:=x1
 clear ZQ TM Xt mh
 obtain ⟨F,hF⟩:=Go.Vm.pure_conciergelaw28_AdmitJudges (a0_0,a0_1,a0_2,a0_3,a0_4,a0_5,a0_6,()) a1_0
 refine (Go.Vm.LR (Go.Vm.mD F) Tryz.func3 (by kernel_rfl) (by kernel_rfl) hF (ds := [.agg (Go.Vm.kv [(.int .i64),(.int .i64),(.int .i64), .str, .str, .str, .str] (a0_0,a0_1,a0_2,a0_3,a0_4,a0_5,a0_6,())), .slc .rl a1_0]) rfl rfl (Go.Vm.PR (Go.Vm.Om rr0) rfl (Go.Vm.PR (Go.Vm.Rx rr1) rfl Go.Vm.hT.nil)) (glOf hL hS)).mono fun e W' ⟨he,bel⟩ => ?_
 subst he
 exact ⟨_,rfl,_,_,_,[],_,[],hW',trodAll_mk1 (shut_bool Tryz.underlying4 _),(trodAll_cons_mk (Below.trod laidOut (by kernel_rfl) (of_decide_eq_true (by kernel_rfl)) k0 bel lt0) (trodAll_cons_mk (Below.trod laidOut (by kernel_rfl) (of_decide_eq_true (by kernel_rfl)) k1 bel lt1) trodAll_mk0)),rfl,bel.frame _,fun h=>by cases h⟩
theorem over:Rows.admitJudgesRow.holds Tryz.pinned (OpenSpec.ofChange Rows.admitJudgesSpec) :=
 OpenClaim.holds_of_wide 3 Tryz.f3 rfl rfl rfl rfl rfl rfl rfl ⟨rfl,rfl,rfl,rfl,rfl⟩ rfl rfl rfl rfl rfl (by kernel_rfl) Tryz.func3 closed
  (of_decide_eq_true (by kernel_rfl)) (by unfold Func.isWrapper; first | (rw [if_pos (by decide +kernel)]; kernel_rfl) | (rw [if_neg (by decide +kernel)]; exact ⟨rfl,rfl⟩))
  (fun os started H enc _=>lifted os started H enc)
theorem proved:Rows.AdmitJudgesCardSaid :=
 Claim7.holds_tied_plain_at .later [] [.data, .data, .data, .data, .sentinel, .sentinel, .pinned] true (true, "da3935492ec0576d79377b831898b91da89cf9fc61f90531614775ded8e42c8c") true over (fun _ h=>by cases h) UK (fun _ h=>by cases h) Go.Proofs.YtihpjgcbmipdbaaGreatDoor.admitJudges_row_tie rfl ⟨rfl,rfl⟩ mainIs rfl
  (fun f fn hf YM=>by
   obtain rfl:f=3:=Option.some.inj (RI.symm.trans hf) |>.symm
   obtain rfl:fn=Tryz.f3:=(Option.some.inj (Tryz.func3.symm.trans YM)).symm
   exact ⟨looksAt,fun j t ht=>by
    rw [Tryz.params3] at ht
    have hm:t ∈ [23,24]:=by simpa using Array.mem_of_getElem? ht
    exact (show Tryz.prog.wantsStandIn t=false by simpa using List.all_eq_true.1 Ry t hm)⟩)
  goesBy
end Go.Proofs.YtihpjgcbmipdbaaGreatDoor.admitJudges
namespace Go.Proofs.YtihpjgcbmipdbaaGreatDoor
theorem admitJudges_holds:Rows.AdmitJudgesCardSaid:=admitJudges.proved
#print axioms admitJudges_holds
end Go.Proofs.YtihpjgcbmipdbaaGreatDoor
