import Derived.Test.YtihpjgcbmipdbaaGreatDoorLFJobPlans
import Derived.Test.YtihpjgcbmipdbaaGreatDoorTie
import Derived.Test.YtihpjgcbmipdbaaGreatDoorCards
import Derived.Lay
import Derived.LaidLaws
import Derived.LaidOnce
import Derived.SevenTiedAt
import Derived.MakeChecks
import Derived.Handed
import Derived.Test.YtihpjgcbmipdbaaGreatDoorRows
import Derived.Test.YtihpjgcbmipdbaaGreatDoorPm7
import Derived.WalkKit
import Derived.ProofKit
import Derived.OpenShut
import Derived.ShutString
import Derived.ChangeOld
import Derived.Below
import Derived.SizedLaws
import Derived.SliceStrings
import Derived.WideKeyPair
namespace Go.Proofs.YtihpjgcbmipdbaaGreatDoor.jobPlans
open Go.ChangeShapes Go.WideShapes Go.ChangeAt Go.RowKit
open Go.ChangeMaps (open_string shut_string)
set_option linter.unusedVariables false
theorem own:ownKnob Tryz.prog.godebug=none:=by kernel_rfl
theorem laidOut:laidOutB Tryz.prog=true:=by kernel_rfl
theorem TI {H:Type} {enc:TypeId×Value->H} {W:World} {base:Nat} {sp:Nat->Bool} {held:Bool}:Go.Vm.wH (Go.Vm.PC W) Go.Vm.kt enc Tryz.prog W base sp held 77 [(.int .i64),(.int .i64),(.int .i64),.str,(.int .i64),(.int .i64),.bool,(.int .i64),(.int .i64),.str,(.int .i64),(.int .i64),(.int .i64),(.int .i64),.str,(.int .i64),(.int .i64),(.int .i64),.str,.str,.str,.str,(.slc .ph),(.int .i64),.str,(.int .i64),(.int .i64),(.int .i64),(.int .i64),(.int .i64),(.int .i64),(.int .i64),(.int .i64),(.int .i64),(.int .i64),(.int .i64)] :=
 (Go.Vm.jC Tryz.underlying77 (by kernel_rfl) (Go.Vm.bj.cons (s:=[(.int .i64),(.int .i64),(.int .i64),.str,(.int .i64),(.int .i64),.bool,(.int .i64)]) (s':=[(.int .i64),.str,(.int .i64),(.int .i64),(.int .i64),(.int .i64),.str,(.int .i64),(.int .i64),(.int .i64),.str,.str,.str,.str,(.slc .ph),(.int .i64),.str,(.int .i64),(.int .i64),(.int .i64),(.int .i64),(.int .i64),(.int .i64),(.int .i64),(.int .i64),(.int .i64),(.int .i64),(.int .i64)]) rfl (by kernel_rfl) (Go.Vm.jC Tryz.underlying68 (by kernel_rfl) (Go.Vm.bj.cons (s:=[(.int .i64)]) (s':=[(.int .i64),(.int .i64),.str,(.int .i64),(.int .i64),.bool,(.int .i64)]) rfl (by kernel_rfl) (Go.Vm.bA Tryz.underlying3 (by decide)) (Go.Vm.bj.cons (s:=[(.int .i64)]) (s':=[(.int .i64),.str,(.int .i64),(.int .i64),.bool,(.int .i64)]) rfl (by kernel_rfl) (Go.Vm.bA Tryz.underlying3 (by decide)) (Go.Vm.bj.cons (s:=[(.int .i64)]) (s':=[.str,(.int .i64),(.int .i64),.bool,(.int .i64)]) rfl (by kernel_rfl) (Go.Vm.bA Tryz.underlying3 (by decide)) (Go.Vm.bj.cons (s:=[.str]) (s':=[(.int .i64),(.int .i64),.bool,(.int .i64)]) rfl (by kernel_rfl) (Go.Vm.iU Tryz.underlying9) (Go.Vm.bj.cons (s:=[(.int .i64)]) (s':=[(.int .i64),.bool,(.int .i64)]) rfl (by kernel_rfl) (Go.Vm.bA Tryz.underlying3 (by decide)) (Go.Vm.bj.cons (s:=[(.int .i64)]) (s':=[.bool,(.int .i64)]) rfl (by kernel_rfl) (Go.Vm.bA Tryz.underlying3 (by decide)) (Go.Vm.bj.cons (s:=[.bool]) (s':=[(.int .i64)]) rfl (by kernel_rfl) (Go.Vm.JS Tryz.underlying4) (Go.Vm.bj.cons (s:=[(.int .i64)]) (s':=[]) rfl (by kernel_rfl) (Go.Vm.bA Tryz.underlying3 (by decide)) (Go.Vm.bj.nil _)))))))))) (Go.Vm.bj.cons (s:=[(.int .i64),.str,(.int .i64),(.int .i64),(.int .i64),(.int .i64),.str,(.int .i64),(.int .i64),(.int .i64),.str,.str,.str,.str]) (s':=[(.slc .ph),(.int .i64),.str,(.int .i64),(.int .i64),(.int .i64),(.int .i64),(.int .i64),(.int .i64),(.int .i64),(.int .i64),(.int .i64),(.int .i64),(.int .i64)]) rfl (by kernel_rfl) (Go.Vm.jC Tryz.underlying35 (by kernel_rfl) (Go.Vm.bj.cons (s:=[(.int .i64)]) (s':=[.str,(.int .i64),(.int .i64),(.int .i64),(.int .i64),.str,(.int .i64),(.int .i64),(.int .i64),.str,.str,.str,.str]) rfl (by kernel_rfl) (Go.Vm.bA Tryz.underlying3 (by decide)) (Go.Vm.bj.cons (s:=[.str]) (s':=[(.int .i64),(.int .i64),(.int .i64),(.int .i64),.str,(.int .i64),(.int .i64),(.int .i64),.str,.str,.str,.str]) rfl (by kernel_rfl) (Go.Vm.iU Tryz.underlying9) (Go.Vm.bj.cons (s:=[(.int .i64)]) (s':=[(.int .i64),(.int .i64),(.int .i64),.str,(.int .i64),(.int .i64),(.int .i64),.str,.str,.str,.str]) rfl (by kernel_rfl) (Go.Vm.bA Tryz.underlying3 (by decide)) (Go.Vm.bj.cons (s:=[(.int .i64)]) (s':=[(.int .i64),(.int .i64),.str,(.int .i64),(.int .i64),(.int .i64),.str,.str,.str,.str]) rfl (by kernel_rfl) (Go.Vm.bA Tryz.underlying3 (by decide)) (Go.Vm.bj.cons (s:=[(.int .i64)]) (s':=[(.int .i64),.str,(.int .i64),(.int .i64),(.int .i64),.str,.str,.str,.str]) rfl (by kernel_rfl) (Go.Vm.bA Tryz.underlying3 (by decide)) (Go.Vm.bj.cons (s:=[(.int .i64)]) (s':=[.str,(.int .i64),(.int .i64),(.int .i64),.str,.str,.str,.str]) rfl (by kernel_rfl) (Go.Vm.bA Tryz.underlying3 (by decide)) (Go.Vm.bj.cons (s:=[.str]) (s':=[(.int .i64),(.int .i64),(.int .i64),.str,.str,.str,.str]) rfl (by kernel_rfl) (Go.Vm.iU Tryz.underlying9) (Go.Vm.bj.cons (s:=[(.int .i64)]) (s':=[(.int .i64),(.int .i64),.str,.str,.str,.str]) rfl (by kernel_rfl) (Go.Vm.bA Tryz.underlying3 (by decide)) (Go.Vm.bj.cons (s:=[(.int .i64)]) (s':=[(.int .i64),.str,.str,.str,.str]) rfl (by kernel_rfl) (Go.Vm.bA Tryz.underlying3 (by decide)) (Go.Vm.bj.cons (s:=[(.int .i64)]) (s':=[.str,.str,.str,.str]) rfl (by kernel_rfl) (Go.Vm.bA Tryz.underlying3 (by decide)) (Go.Vm.bj.cons (s:=[.str]) (s':=[.str,.str,.str]) rfl (by kernel_rfl) (Go.Vm.iU Tryz.underlying9) (Go.Vm.bj.cons (s:=[.str]) (s':=[.str,.str]) rfl (by kernel_rfl) (Go.Vm.iU Tryz.underlying9) (Go.Vm.bj.cons (s:=[.str]) (s':=[.str]) rfl (by kernel_rfl) (Go.Vm.iU Tryz.underlying9) (Go.Vm.bj.cons (s:=[.str]) (s':=[]) rfl (by kernel_rfl) (Go.Vm.iU Tryz.underlying9) (Go.Vm.bj.nil _)))))))))))))))) (Go.Vm.bj.cons (s:=[(.slc .ph)]) (s':=[(.int .i64),.str,(.int .i64),(.int .i64),(.int .i64),(.int .i64),(.int .i64),(.int .i64),(.int .i64),(.int .i64),(.int .i64),(.int .i64),(.int .i64)]) rfl (by kernel_rfl) (Go.Vm.HK (S:=fun _=>True) .ph Tryz.underlying27 (by kernel_rfl) rfl (by decide) (Go.Vm.jC Tryz.underlying62 (by kernel_rfl) (Go.Vm.bj.cons (s:=[(.int .i64)]) (s':=[.str,(.int .i64),.str]) rfl (by kernel_rfl) (Go.Vm.bA Tryz.underlying3 (by decide)) (Go.Vm.bj.cons (s:=[.str]) (s':=[(.int .i64),.str]) rfl (by kernel_rfl) (Go.Vm.iU Tryz.underlying9) (Go.Vm.bj.cons (s:=[(.int .i64)]) (s':=[.str]) rfl (by kernel_rfl) (Go.Vm.bA Tryz.underlying3 (by decide)) (Go.Vm.bj.cons (s:=[.str]) (s':=[]) rfl (by kernel_rfl) (Go.Vm.iU Tryz.underlying9) (Go.Vm.bj.nil _)))))) (fun x=>x) (fun x=>rfl) (fun _ _ _=>trivial)) (Go.Vm.bj.cons (s:=[(.int .i64),.str,(.int .i64),(.int .i64),(.int .i64),(.int .i64)]) (s':=[(.int .i64),(.int .i64),(.int .i64),(.int .i64),(.int .i64),(.int .i64),(.int .i64)]) rfl (by kernel_rfl) (Go.Vm.jC Tryz.underlying73 (by kernel_rfl) (Go.Vm.bj.cons (s:=[(.int .i64)]) (s':=[.str,(.int .i64),(.int .i64),(.int .i64),(.int .i64)]) rfl (by kernel_rfl) (Go.Vm.bA Tryz.underlying3 (by decide)) (Go.Vm.bj.cons (s:=[.str]) (s':=[(.int .i64),(.int .i64),(.int .i64),(.int .i64)]) rfl (by kernel_rfl) (Go.Vm.iU Tryz.underlying9) (Go.Vm.bj.cons (s:=[(.int .i64)]) (s':=[(.int .i64),(.int .i64),(.int .i64)]) rfl (by kernel_rfl) (Go.Vm.bA Tryz.underlying3 (by decide)) (Go.Vm.bj.cons (s:=[(.int .i64)]) (s':=[(.int .i64),(.int .i64)]) rfl (by kernel_rfl) (Go.Vm.bA Tryz.underlying3 (by decide)) (Go.Vm.bj.cons (s:=[(.int .i64)]) (s':=[(.int .i64)]) rfl (by kernel_rfl) (Go.Vm.bA Tryz.underlying3 (by decide)) (Go.Vm.bj.cons (s:=[(.int .i64)]) (s':=[]) rfl (by kernel_rfl) (Go.Vm.bA Tryz.underlying3 (by decide)) (Go.Vm.bj.nil _)))))))) (Go.Vm.bj.cons (s:=[(.int .i64)]) (s':=[(.int .i64),(.int .i64),(.int .i64),(.int .i64),(.int .i64),(.int .i64)]) rfl (by kernel_rfl) (Go.Vm.bA Tryz.underlying3 (by decide)) (Go.Vm.bj.cons (s:=[(.int .i64),(.int .i64),(.int .i64),(.int .i64),(.int .i64),(.int .i64)]) (s':=[]) rfl (by kernel_rfl) (Go.Vm.jC Tryz.underlying75 (by kernel_rfl) (Go.Vm.bj.cons (s:=[(.int .i64)]) (s':=[(.int .i64),(.int .i64),(.int .i64),(.int .i64),(.int .i64)]) rfl (by kernel_rfl) (Go.Vm.bA Tryz.underlying3 (by decide)) (Go.Vm.bj.cons (s:=[(.int .i64)]) (s':=[(.int .i64),(.int .i64),(.int .i64),(.int .i64)]) rfl (by kernel_rfl) (Go.Vm.bA Tryz.underlying3 (by decide)) (Go.Vm.bj.cons (s:=[(.int .i64)]) (s':=[(.int .i64),(.int .i64),(.int .i64)]) rfl (by kernel_rfl) (Go.Vm.bA Tryz.underlying3 (by decide)) (Go.Vm.bj.cons (s:=[(.int .i64)]) (s':=[(.int .i64),(.int .i64)]) rfl (by kernel_rfl) (Go.Vm.bA Tryz.underlying3 (by decide)) (Go.Vm.bj.cons (s:=[(.int .i64)]) (s':=[(.int .i64)]) rfl (by kernel_rfl) (Go.Vm.bA Tryz.underlying3 (by decide)) (Go.Vm.bj.cons (s:=[(.int .i64)]) (s':=[]) rfl (by kernel_rfl) (Go.Vm.bA Tryz.underlying3 (by decide)) (Go.Vm.bj.nil _)))))))) (Go.Vm.bj.nil _))))))))
def laid:List (String×DataW Unit):=[("math/bits.deBruijn32tab",Rows.laid_math_bits_deBruijn32tab),("math/bits.deBruijn64tab",Rows.laid_math_bits_deBruijn64tab),("internal/strconv.uint64pow10",Rows.laid_internal_strconv_uint64pow10),("unicode/utf8.acceptRanges",Rows.laid_unicode_utf8_acceptRanges),("strconv.ErrRange",Rows.laid_strconv_ErrRange),("strconv.ErrSyntax",Rows.laid_strconv_ErrSyntax),("unicode/utf8.first",Rows.laid_unicode_utf8_first)]
set_option maxRecDepth 100000 in
theorem glOf {w:World} (h0:laidMetH Tryz.prog laid w) (hS:w.ShapedOpen Tryz.prog):Go.Vm.kt.gl w:=by
 have h:laidMet Tryz.prog laid w:=by rw[<-MakeChecks.laidMetH_plain _ _ _ (by kernel_rfl)]; exact h0
 have t0:=Go.Vm.IY h (name := "internal/strconv.uint64pow10") (k := .u64) (zs:=Go.Lib.pow10Tab) (List.mem_of_getElem? (i:=2) rfl) (by kernel_rfl) (g:=5) (by kernel_rfl) rfl rfl rfl (by kernel_rfl) (by kernel_rfl)
 have e0:=Go.Vm.zt h (name := "strconv.ErrSyntax") (List.mem_of_getElem? (i:=5) rfl) (g:=3) (by kernel_rfl) rfl rfl
 have e1:=Go.Vm.zt h (name := "strconv.ErrRange") (List.mem_of_getElem? (i:=4) rfl) (g:=4) (by kernel_rfl) rfl rfl
 have u0:=Go.Vm.Gq (ρ:=Go.Vm.Trm.fS) ({ Go.Vm.Trm.iG with }:U8Types Tryz.prog Go.Vm.Trm.fS) ⟨by kernel_rfl,by kernel_rfl,by kernel_rfl,by kernel_rfl,by kernel_rfl,by kernel_rfl,by kernel_rfl⟩ h (List.mem_of_getElem? (i:=6) (by kernel_rfl)) (List.mem_of_getElem? (i:=3) (by kernel_rfl))
 have i0:=Go.Proofs.cell_of_shapedOpen_int (g:=0) hS (of_decide_eq_true (by kernel_rfl)) (zero := #[.int .i64 0]) (t:=3) (by kernel_rfl) rfl (by kernel_rfl) (by kernel_rfl) Tryz.underlying3
 refine ⟨(Go.Vm.HH (by kernel_rfl) t0 0).2,fun x hx => ?_,fun g hg => ?_,⟨u0,fun g hg=>by simp only[List.mem_cons,List.not_mem_nil,or_false] at hg; rcases hg with rfl <;> first | exact i0⟩⟩
 ·simp only[List.mem_cons,List.not_mem_nil,or_false] at hx
  rcases hx with rfl
  ·exact t0
 ·simp only[List.mem_cons,List.not_mem_nil,or_false] at hg
  rcases hg with rfl | rfl
  ·exact e0.1
  ·exact e1.1
set_option maxHeartbeats 2000000 in
set_option maxRecDepth 100000 in
theorem lifted (os:Os) (started:os.Started) (H:Type) (enc:TypeId×Value->H) :
  ReturnsInHanded {} Tryz.checked os 11 .any (fun w args=>(Rows.jobPlansSpec.pre enc Tryz.prog Tryz.f11 [] false w args/\laidMetH Tryz.prog laid w)/\sizedMet enc Tryz.prog Tryz.f11 (OpenSpec.ofChange Rows.jobPlansSpec) false w args) (Rows.jobPlansSpec.post enc Tryz.prog Tryz.f11 false true false false):=by
 refine Go.Vm.Dm (C:=Tryz.checked) (X:=fun w _=>laidMetH Tryz.prog laid w) (fun _ _ _ hh h=>h.of_heap hh) own started (by kernel_rfl) Tryz.func11
  (ChangeSpec.witness_shaped (enc:=enc) (C:=Tryz.checked) (os:=os) (X:=fun w _=>laidMetH Tryz.prog laid w) false (World.laidAll Tryz.prog os laid) #[.agg #[.int .i64 0,.int .i64 0,.int .i64 0,.string ByteArray.empty,.int .i64 0,.int .i64 0,.bool false,.int .i64 0,.int .i64 0,.string ByteArray.empty,.int .i64 0,.int .i64 0,.int .i64 0,.int .i64 0,.string ByteArray.empty,.int .i64 0,.int .i64 0,.int .i64 0,.string ByteArray.empty,.string ByteArray.empty,.string ByteArray.empty,.string ByteArray.empty,.slice none 0 0,.int .i64 0,.string ByteArray.empty,.int .i64 0,.int .i64 0,.int .i64 0,.int .i64 0,.int .i64 0,.int .i64 0,.int .i64 0,.int .i64 0,.int .i64 0,.int .i64 0,.int .i64 0]] 8 (World.laidAll_os _ _ _)
   (World.shaped_of_ZipB (by kernel_rfl) (by kernel_rfl)) (by kernel_rfl) (by kernel_rfl) (by kernel_rfl)
   (by rw[MakeChecks.laidMetH_plain _ _ _ (by kernel_rfl)]; exact laidMet_laidAll _ (by kernel_rfl) (by kernel_rfl))) ?_
 intro W base args ds gs before U0 hW ack YT hL hS _
 have nf:(DataW.weightsEach Tryz.prog (Tryz.f11.params.toList++Rows.jobPlansSpec.plain.varTypes Tryz.prog) (ds++gs)).all (· <= reachBytes)=true:=YT
 have r8:∀ (j:Nat) t v,Tryz.f11.params[j]? = some t->args[j]? = some v->Value.okWide Tryz.prog W .any base t v:=U0
 have hW':=hW
 obtain ⟨p,q,hA0,hV,rfl,zG,vO⟩:=hW
 have hA:DataW.TrodAll enc Tryz.prog W 0 (fun _=>true) true Tryz.f11.params.toList args.toList ds p:=hA0
 rw[Tryz.params11] at hA r8 nf
 obtain ⟨v0,vs0,d0,ds0,p0,q0,sk,rfl,rfl,h0,r0⟩:=trodAll_cons hA
 obtain ⟨rfl,rfl,rfl⟩:=trodAll_nil r0
 obtain rfl:args = #[v0]:=by cases args; simp_all
 obtain ⟨rfl,rfl⟩:=trodVars_none hV
 obtain ⟨cs0,rfl,RX⟩:=okWide_struct Tryz.underlying77 (r8 0 77 v0 rfl rfl)
 have k0:=h0
 have lt0:∀ x∈p0,x.block<W.heap.size:=by obtain ⟨m,hm⟩:=k0; exact DataW.trod_lt m _ _ _ hm
 obtain ⟨x0,rr0⟩:=Go.Vm.Qi TI (r8 0 77 _ rfl rfl) h0
 obtain ⟨a0_0,a0_1,a0_2,a0_3,a0_4,a0_5,a0_6,a0_7,a0_8,a0_9,a0_10,a0_11,a0_12,a0_13,a0_14,a0_15,a0_16,a0_17,a0_18,a0_19,a0_20,a0_21,a0_22,a0_23,a0_24,a0_25,a0_26,a0_27,a0_28,a0_29,a0_30,a0_31,a0_32,a0_33,a0_34,a0_35,⟨⟩⟩:=x0
 clear hA0 U0 YT nf
 obtain ⟨F,hF⟩:=Go.Vm.pure_conciergelaw29_JobPlans (a0_0,a0_1,a0_2,a0_3,a0_4,a0_5,a0_6,a0_7,a0_8,a0_9,a0_10,a0_11,a0_12,a0_13,a0_14,a0_15,a0_16,a0_17,a0_18,a0_19,a0_20,a0_21,a0_22,a0_23,a0_24,a0_25,a0_26,a0_27,a0_28,a0_29,a0_30,a0_31,a0_32,a0_33,a0_34,a0_35,())
 refine (Go.Vm.NB (Go.Vm.pn F) Tryz.func11 (by kernel_rfl) (by kernel_rfl) hF (ds:=[.agg (Go.Vm.kO [(.int .i64),(.int .i64),(.int .i64),.str,(.int .i64),(.int .i64),.bool,(.int .i64),(.int .i64),.str,(.int .i64),(.int .i64),(.int .i64),(.int .i64),.str,(.int .i64),(.int .i64),(.int .i64),.str,.str,.str,.str,(.slc .ph),(.int .i64),.str,(.int .i64),(.int .i64),(.int .i64),(.int .i64),(.int .i64),(.int .i64),(.int .i64),(.int .i64),(.int .i64),(.int .i64),(.int .i64)] (a0_0,a0_1,a0_2,a0_3,a0_4,a0_5,a0_6,a0_7,a0_8,a0_9,a0_10,a0_11,a0_12,a0_13,a0_14,a0_15,a0_16,a0_17,a0_18,a0_19,a0_20,a0_21,a0_22,a0_23,a0_24,a0_25,a0_26,a0_27,a0_28,a0_29,a0_30,a0_31,a0_32,a0_33,a0_34,a0_35,()))]) rfl rfl (Go.Vm.Wa (Go.Vm.PG rr0) rfl Go.Vm.ig.nil) (glOf hL hS)).mono fun e W' ⟨he,bel⟩ => ?_
 subst he
 exact ⟨_,rfl,_,_,_,[],_,[],hW',trodAll_mk1 (shut_bool Tryz.underlying4 _),(trodAll_cons_mk (Below.trod laidOut (by kernel_rfl) (of_decide_eq_true (by kernel_rfl)) k0 bel lt0) trodAll_mk0),rfl,bel.frame _,fun h=>by cases h⟩
theorem over:Rows.jobPlansRow.holds Tryz.pinned (OpenSpec.ofChange Rows.jobPlansSpec) :=
 OpenClaim.holds_of_wide 11 Tryz.f11 rfl rfl rfl rfl rfl rfl rfl ⟨rfl,rfl,rfl,rfl,rfl⟩ rfl rfl rfl rfl rfl (by kernel_rfl) Tryz.func11 closed
  (of_decide_eq_true (by kernel_rfl)) (by unfold Func.isWrapper; first | (rw[if_pos (by decide +kernel)]; kernel_rfl) | (rw[if_neg (by decide +kernel)]; exact ⟨rfl,rfl⟩))
  (fun os started H enc _=>lifted os started H enc)
theorem proved:Rows.JobPlansCardSaid :=
 Claim7.holds_tied_plain_at .later [] [.data,.data,.data,.data,.sentinel,.sentinel,.pinned] true (true, "da3935492ec0576d79377b831898b91da89cf9fc61f90531614775ded8e42c8c") true over (fun _ h=>by cases h) Vg (fun _ h=>by cases h) Go.Proofs.YtihpjgcbmipdbaaGreatDoor.jobPlans_row_tie rfl ⟨rfl,rfl⟩ mainIs rfl
  (fun f fn hf hfn=>by
   obtain rfl:f=11:=Option.some.inj (Te.symm.trans hf) |>.symm
   obtain rfl:fn=Tryz.f11:=(Option.some.inj (Tryz.func11.symm.trans hfn)).symm
   exact ⟨looksAt,fun j t ht=>by
    rw[Tryz.params11] at ht
    have hm:t ∈ [77]:=by simpa using Array.mem_of_getElem? ht
    exact (show Tryz.prog.wantsStandIn t=false by simpa using List.all_eq_true.1 SK t hm)⟩)
  goesBy
end Go.Proofs.YtihpjgcbmipdbaaGreatDoor.jobPlans
namespace Go.Proofs.YtihpjgcbmipdbaaGreatDoor
theorem jobPlans_holds:Rows.JobPlansCardSaid:=jobPlans.proved
#print axioms jobPlans_holds
end Go.Proofs.YtihpjgcbmipdbaaGreatDoor
