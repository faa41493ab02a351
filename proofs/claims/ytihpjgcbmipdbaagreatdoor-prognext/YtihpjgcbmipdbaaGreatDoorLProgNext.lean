/- The law concierge/conciergelaw23.ProgNext: for every input it answers true. No condition. -/
import Derived.Test.YtihpjgcbmipdbaaGreatDoorLFProgNext
import Derived.Test.YtihpjgcbmipdbaaGreatDoorTie
import Derived.Test.YtihpjgcbmipdbaaGreatDoorCards
import Derived.Lay
import Derived.LaidLaws
import Derived.LaidOnce
import Derived.SevenTiedAt
import Derived.MakeChecks
import Derived.Handed
import Derived.Test.YtihpjgcbmipdbaaGreatDoorRows
import Derived.Test.YtihpjgcbmipdbaaGreatDoorFlaw23
import Derived.Test.YtihpjgcbmipdbaaGreatDoorPn2
import Derived.WalkKit
import Derived.ProofKit
import Derived.OpenShut
import Derived.ShutString
import Derived.ChangeOld
import Derived.Below
import Derived.SizedLaws
import Derived.SliceStrings
import Derived.WideKeyPair
namespace Go.Proofs.YtihpjgcbmipdbaaGreatDoor.progNext
open Go.ChangeShapes Go.WideShapes Go.ChangeAt Go.RowKit
open Go.ChangeMaps (open_string shut_string)
set_option linter.unusedVariables false
theorem own:ownKnob Tryz.prog.godebug=none:=by kernel_rfl
theorem laidOut:laidOutB Tryz.prog=true:=by kernel_rfl
theorem JQ {H:Type} {enc:TypeId×Value→H} {W:World} {base:Nat} {sp:Nat→Bool} {held:Bool}:Go.Vm.sA (Go.Vm.E6 W) Go.Vm.kt enc Tryz.prog W base sp held 35 [(.int .i64), .str,(.int .i64),(.int .i64),(.int .i64),(.int .i64), .str,(.int .i64),(.int .i64),(.int .i64), .str, .str, .str, .str] :=
 (Go.Vm.rZ Tryz.underlying35 (by kernel_rfl) (Go.Vm.eh.cons (s := [(.int .i64)]) (s' := [.str,(.int .i64),(.int .i64),(.int .i64),(.int .i64), .str,(.int .i64),(.int .i64),(.int .i64), .str, .str, .str, .str]) rfl (by kernel_rfl) (Go.Vm.gk Tryz.underlying3 (by decide)) (Go.Vm.eh.cons (s := [.str]) (s' := [(.int .i64),(.int .i64),(.int .i64),(.int .i64), .str,(.int .i64),(.int .i64),(.int .i64), .str, .str, .str, .str]) rfl (by kernel_rfl) (Go.Vm.iL Tryz.underlying9) (Go.Vm.eh.cons (s := [(.int .i64)]) (s' := [(.int .i64),(.int .i64),(.int .i64), .str,(.int .i64),(.int .i64),(.int .i64), .str, .str, .str, .str]) rfl (by kernel_rfl) (Go.Vm.gk Tryz.underlying3 (by decide)) (Go.Vm.eh.cons (s := [(.int .i64)]) (s' := [(.int .i64),(.int .i64), .str,(.int .i64),(.int .i64),(.int .i64), .str, .str, .str, .str]) rfl (by kernel_rfl) (Go.Vm.gk Tryz.underlying3 (by decide)) (Go.Vm.eh.cons (s := [(.int .i64)]) (s' := [(.int .i64), .str,(.int .i64),(.int .i64),(.int .i64), .str, .str, .str, .str]) rfl (by kernel_rfl) (Go.Vm.gk Tryz.underlying3 (by decide)) (Go.Vm.eh.cons (s := [(.int .i64)]) (s' := [.str,(.int .i64),(.int .i64),(.int .i64), .str, .str, .str, .str]) rfl (by kernel_rfl) (Go.Vm.gk Tryz.underlying3 (by decide)) (Go.Vm.eh.cons (s := [.str]) (s' := [(.int .i64),(.int .i64),(.int .i64), .str, .str, .str, .str]) rfl (by kernel_rfl) (Go.Vm.iL Tryz.underlying9) (Go.Vm.eh.cons (s := [(.int .i64)]) (s' := [(.int .i64),(.int .i64), .str, .str, .str, .str]) rfl (by kernel_rfl) (Go.Vm.gk Tryz.underlying3 (by decide)) (Go.Vm.eh.cons (s := [(.int .i64)]) (s' := [(.int .i64), .str, .str, .str, .str]) rfl (by kernel_rfl) (Go.Vm.gk Tryz.underlying3 (by decide)) (Go.Vm.eh.cons (s := [(.int .i64)]) (s' := [.str, .str, .str, .str]) rfl (by kernel_rfl) (Go.Vm.gk Tryz.underlying3 (by decide)) (Go.Vm.eh.cons (s := [.str]) (s' := [.str, .str, .str]) rfl (by kernel_rfl) (Go.Vm.iL Tryz.underlying9) (Go.Vm.eh.cons (s := [.str]) (s' := [.str, .str]) rfl (by kernel_rfl) (Go.Vm.iL Tryz.underlying9) (Go.Vm.eh.cons (s := [.str]) (s' := [.str]) rfl (by kernel_rfl) (Go.Vm.iL Tryz.underlying9) (Go.Vm.eh.cons (s := [.str]) (s' := []) rfl (by kernel_rfl) (Go.Vm.iL Tryz.underlying9) (Go.Vm.eh.nil _))))))))))))))))
theorem Jh {H:Type} {enc:TypeId×Value→H} {W:World} {base:Nat} {sp:Nat→Bool} {held:Bool}:Go.Vm.sA (Go.Vm.E6 W) Go.Vm.kt enc Tryz.prog W base sp held 27 [(.slc .ph)] :=
 (Go.Vm.AB (S:=fun _=>True) .ph Tryz.underlying27 (by kernel_rfl) rfl (by decide) (Go.Vm.rZ Tryz.underlying62 (by kernel_rfl) (Go.Vm.eh.cons (s := [(.int .i64)]) (s' := [.str,(.int .i64), .str]) rfl (by kernel_rfl) (Go.Vm.gk Tryz.underlying3 (by decide)) (Go.Vm.eh.cons (s := [.str]) (s' := [(.int .i64), .str]) rfl (by kernel_rfl) (Go.Vm.iL Tryz.underlying9) (Go.Vm.eh.cons (s := [(.int .i64)]) (s' := [.str]) rfl (by kernel_rfl) (Go.Vm.gk Tryz.underlying3 (by decide)) (Go.Vm.eh.cons (s := [.str]) (s' := []) rfl (by kernel_rfl) (Go.Vm.iL Tryz.underlying9) (Go.Vm.eh.nil _)))))) (fun x=>x) (fun x=>rfl) (fun _ _ _=>trivial))
def laid:List (String×DataW Unit) := [("math/bits.deBruijn32tab",Rows.laid_math_bits_deBruijn32tab),("math/bits.deBruijn64tab",Rows.laid_math_bits_deBruijn64tab),("internal/strconv.uint64pow10",Rows.laid_internal_strconv_uint64pow10),("unicode/utf8.acceptRanges",Rows.laid_unicode_utf8_acceptRanges),("strconv.ErrRange",Rows.laid_strconv_ErrRange),("strconv.ErrSyntax",Rows.laid_strconv_ErrSyntax),("unicode/utf8.first",Rows.laid_unicode_utf8_first)]
set_option maxRecDepth 100000 in
theorem glOf {w:World} (h0:laidMetH Tryz.prog laid w) (hS:w.ShapedOpen Tryz.prog):Go.Vm.kt.gl w:=by
 have h:laidMet Tryz.prog laid w:=by rw [← MakeChecks.laidMetH_plain _ _ _ (by kernel_rfl)]; exact h0
 have t0:=Go.Vm.AM h (name := "internal/strconv.uint64pow10") (k := .u64) (zs:=Go.Lib.pow10Tab) (List.mem_of_getElem? (i:=2) rfl) (by kernel_rfl) (g:=5) (by kernel_rfl) rfl rfl rfl (by kernel_rfl) (by kernel_rfl)
 have e0:=Go.Vm.tP h (name := "strconv.ErrSyntax") (List.mem_of_getElem? (i:=5) rfl) (g:=3) (by kernel_rfl) rfl rfl
 have e1:=Go.Vm.tP h (name := "strconv.ErrRange") (List.mem_of_getElem? (i:=4) rfl) (g:=4) (by kernel_rfl) rfl rfl
 have u0:=Go.Vm.zl (ρ:=Go.Vm.Trm.dR) ({ Go.Vm.Trm.fg with }:U8Types Tryz.prog Go.Vm.Trm.dR) ⟨by kernel_rfl,by kernel_rfl,by kernel_rfl,by kernel_rfl,by kernel_rfl,by kernel_rfl,by kernel_rfl⟩ h (List.mem_of_getElem? (i:=6) (by kernel_rfl)) (List.mem_of_getElem? (i:=3) (by kernel_rfl))
 have i0:=Go.Proofs.cell_of_shapedOpen_int (g:=0) hS (of_decide_eq_true (by kernel_rfl)) (zero := #[.int .i64 0]) (t:=3) (by kernel_rfl) rfl (by kernel_rfl) (by kernel_rfl) Tryz.underlying3
 refine ⟨(Go.Vm.AA (by kernel_rfl) t0 0).2,fun x hx => ?_,fun g hg => ?_,⟨u0,fun g hg=>by simp only [List.mem_cons,List.not_mem_nil,or_false] at hg; rcases hg with rfl <;> first | exact i0⟩⟩
 ·simp only [List.mem_cons,List.not_mem_nil,or_false] at hx
  rcases hx with rfl
  ·exact t0
 ·simp only [List.mem_cons,List.not_mem_nil,or_false] at hg
  rcases hg with rfl | rfl
  ·exact e0.1
  ·exact e1.1
set_option maxHeartbeats 2000000 in
set_option maxRecDepth 100000 in
theorem lifted (os:Os) (started:os.Started) (H:Type) (enc:TypeId×Value→H) :
  ReturnsInHanded {} Tryz.checked os 7 .any (fun w args=>(Rows.progNextSpec.pre enc Tryz.prog Tryz.f7 [] false w args∧laidMetH Tryz.prog laid w)∧sizedMet enc Tryz.prog Tryz.f7 (OpenSpec.ofChange Rows.progNextSpec) false w args) (Rows.progNextSpec.post enc Tryz.prog Tryz.f7 false true false false):=by
 refine Go.Vm.xk (C:=Tryz.checked) (X:=fun w _=>laidMetH Tryz.prog laid w) (fun _ _ _ hh h=>h.of_heap hh) own started (by kernel_rfl) Tryz.func7
  (ChangeSpec.witness_shaped (enc:=enc) (C:=Tryz.checked) (os:=os) (X:=fun w _=>laidMetH Tryz.prog laid w) false (World.laidAll Tryz.prog os laid) #[.slice none 0 0, .agg #[.int .i64 0, .string ByteArray.empty, .int .i64 0, .int .i64 0, .int .i64 0, .int .i64 0, .string ByteArray.empty, .int .i64 0, .int .i64 0, .int .i64 0, .string ByteArray.empty, .string ByteArray.empty, .string ByteArray.empty, .string ByteArray.empty], .int .i64 0] 8 (World.laidAll_os _ _ _)
   (World.shaped_of_ZipB (by kernel_rfl) (by kernel_rfl)) (by kernel_rfl) (by kernel_rfl) (by kernel_rfl)
   (by rw [MakeChecks.laidMetH_plain _ _ _ (by kernel_rfl)]; exact laidMet_laidAll _ (by kernel_rfl) (by kernel_rfl))) ?_
 intro W base args ds gs before hval0 hW hcnd hsz0 hL hS _
 have hsz:(DataW.weightsEach Tryz.prog (Tryz.f7.params.toList ++ Rows.progNextSpec.plain.varTypes Tryz.prog) (ds ++ gs)).all (· ≤ reachBytes)=true:=hsz0
 have hval : ∀ (j:Nat) t v,Tryz.f7.params[j]? = some t→args[j]? = some v→Value.okWide Tryz.prog W .any base t v:=hval0
 have hW':=hW
 obtain ⟨p,q,hA0,hV,rfl,hfz,hnd⟩:=hW
 have hA:DataW.TrodAll enc Tryz.prog W 0 (fun _=>true) true Tryz.f7.params.toList args.toList ds p:=hA0
 rw [Tryz.params7] at hA hval hsz
 obtain ⟨v0,vs0,d0,ds0,p0,q0,hargs,rfl,rfl,h0,r0⟩:=trodAll_cons hA
 obtain ⟨v1,vs1,d1,ds1,p1,q1,rfl,rfl,rfl,h1,r1⟩:=trodAll_cons r0
 obtain ⟨v2,vs2,d2,ds2,p2,q2,rfl,rfl,rfl,h2,r2⟩:=trodAll_cons r1
 obtain ⟨rfl,rfl,rfl⟩:=trodAll_nil r2
 obtain rfl:args = #[v0,v1,v2]:=by cases args; simp_all
 obtain ⟨rfl,rfl⟩:=trodVars_none hV
 obtain ⟨b0,len0,cap0,rfl⟩:=okWide_slice Tryz.underlying27 (hval 0 27 v0 rfl rfl)
 have k0:=h0
 have lt0 : ∀ x∈p0,x.block<W.heap.size:=by obtain ⟨m,hm⟩:=k0; exact DataW.trod_lt m _ _ _ hm
 obtain ⟨x0,rr0⟩:=Go.Vm.BA Jh (hval 0 27 _ rfl rfl) h0
 obtain ⟨a0_0,⟨⟩⟩:=x0
 obtain ⟨cs1,rfl,hz1⟩:=okWide_struct Tryz.underlying35 (hval 1 35 v1 rfl rfl)
 have k1:=h1
 have lt1 : ∀ x∈p1,x.block<W.heap.size:=by obtain ⟨m,hm⟩:=k1; exact DataW.trod_lt m _ _ _ hm
 obtain ⟨x1,rr1⟩:=Go.Vm.BA JQ (hval 1 35 _ rfl rfl) h1
 obtain ⟨a1_0,a1_1,a1_2,a1_3,a1_4,a1_5,a1_6,a1_7,a1_8,a1_9,a1_10,a1_11,a1_12,a1_13,⟨⟩⟩:=x1
 obtain ⟨a2,rfl,rfl,rfl,w2⟩:=open_int Tryz.underlying3 (hval 2 3 v2 rfl rfl) h2
 clear hA0 hval0 hsz0 hsz
 obtain ⟨F,hF⟩:=Go.Vm.pure_conciergelaw23_ProgNext a0_0 (a1_0,a1_1,a1_2,a1_3,a1_4,a1_5,a1_6,a1_7,a1_8,a1_9,a1_10,a1_11,a1_12,a1_13,()) a2
 refine (Go.Vm.Gp (Go.Vm.lT F) Tryz.func7 (by kernel_rfl) (by kernel_rfl) hF (ds := [.slc .ph a0_0, .agg (Go.Vm.iV [(.int .i64), .str,(.int .i64),(.int .i64),(.int .i64),(.int .i64), .str,(.int .i64),(.int .i64),(.int .i64), .str, .str, .str, .str] (a1_0,a1_1,a1_2,a1_3,a1_4,a1_5,a1_6,a1_7,a1_8,a1_9,a1_10,a1_11,a1_12,a1_13,())), .int .i64 a2]) rfl rfl (Go.Vm.Dv (Go.Vm.Jp rr0) rfl (Go.Vm.Dv (Go.Vm.HP rr1) rfl (Go.Vm.Dv (Go.Vm.sC .i64 a2 rfl) rfl Go.Vm.fC.nil))) (glOf hL hS)).mono fun e W' ⟨he,bel⟩ => ?_
 subst he
 exact ⟨_,rfl,_,_,_,[],_,[],hW',trodAll_mk1 (shut_bool Tryz.underlying4 _),(trodAll_cons_mk (Below.trod laidOut (by kernel_rfl) (of_decide_eq_true (by kernel_rfl)) k0 bel lt0) (trodAll_cons_mk (Below.trod laidOut (by kernel_rfl) (of_decide_eq_true (by kernel_rfl)) k1 bel lt1) (trodAll_cons_mk (shut_int Tryz.underlying3 w2) trodAll_mk0))),rfl,bel.frame _,fun h=>by cases h⟩
theorem over:Rows.progNextRow.holds Tryz.pinned (OpenSpec.ofChange Rows.progNextSpec) :=
 OpenClaim.holds_of_wide 7 Tryz.f7 rfl rfl rfl rfl rfl rfl rfl ⟨rfl,rfl,rfl,rfl,rfl⟩ rfl rfl rfl rfl rfl (by kernel_rfl) Tryz.func7 closed
  (of_decide_eq_true (by kernel_rfl)) (by unfold Func.isWrapper; first | (rw [if_pos (by decide +kernel)]; kernel_rfl) | (rw [if_neg (by decide +kernel)]; exact ⟨rfl,rfl⟩))
  (fun os started H enc _=>lifted os started H enc)
theorem proved:Rows.ProgNextCardSaid :=
 Claim7.holds_tied_plain_at .later [] [.data, .data, .data, .data, .sentinel, .sentinel, .pinned] true (true, "da3935492ec0576d79377b831898b91da89cf9fc61f90531614775ded8e42c8c") true over (fun _ h=>by cases h) LU (fun _ h=>by cases h) Go.Proofs.YtihpjgcbmipdbaaGreatDoor.progNext_row_tie rfl ⟨rfl,rfl⟩ mainIs rfl
  (fun f fn hf hfn=>by
   obtain rfl:f=7:=Option.some.inj (JD.symm.trans hf) |>.symm
   obtain rfl:fn=Tryz.f7:=(Option.some.inj (Tryz.func7.symm.trans hfn)).symm
   exact ⟨looksAt,fun j t ht=>by
    rw [Tryz.params7] at ht
    have hm:t ∈ [27,35,3]:=by simpa using Array.mem_of_getElem? ht
    exact (show Tryz.prog.wantsStandIn t=false by simpa using List.all_eq_true.1 Kk t hm)⟩)
  goesBy
end Go.Proofs.YtihpjgcbmipdbaaGreatDoor.progNext
namespace Go.Proofs.YtihpjgcbmipdbaaGreatDoor
theorem progNext_holds:Rows.ProgNextCardSaid:=progNext.proved
#print axioms progNext_holds
end Go.Proofs.YtihpjgcbmipdbaaGreatDoor
