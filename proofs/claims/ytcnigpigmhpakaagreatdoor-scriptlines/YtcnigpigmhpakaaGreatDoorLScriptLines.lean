/- The law concierge/conciergelaw34.ScriptLines: for every input it answers true. No condition. -/
import Derived.Test.YtcnigpigmhpakaaGreatDoorLFScriptLines
import Derived.Test.YtcnigpigmhpakaaGreatDoorTie
import Derived.Test.YtcnigpigmhpakaaGreatDoorCards
import Derived.Lay
import Derived.LaidLaws
import Derived.LaidOnce
import Derived.SevenTiedAt
import Derived.MakeChecks
import Derived.Handed
import Derived.Test.YtcnigpigmhpakaaGreatDoorFjson
import Derived.Test.YtcnigpigmhpakaaGreatDoorRows
import Derived.Test.YtcnigpigmhpakaaGreatDoorFlaw34
import Derived.Test.YtcnigpigmhpakaaGreatDoorPsc10
import Derived.WalkKit
import Derived.ProofKit
import Derived.OpenShut
import Derived.ShutString
import Derived.ChangeOld
import Derived.Below
import Derived.SizedLaws
import Derived.SliceStrings
import Derived.WideKeyPair
namespace Go.Proofs.YtcnigpigmhpakaaGreatDoor.scriptLines
open Go.ChangeShapes Go.WideShapes Go.ChangeAt Go.RowKit
open Go.ChangeMaps (open_string shut_string)
set_option linter.unusedVariables false
theorem own:ownKnob Tryz.prog.godebug=none:=by kernel_rfl
theorem laidOut:laidOutB Tryz.prog=true:=by kernel_rfl
theorem xX {H:Type} {enc:TypeId×Value→H} {W:World} {base:Nat} {sp:Nat→Bool} {held:Bool}:Go.Vm.ni (Go.Vm.EY W) Go.Vm.kt enc Tryz.prog W base sp held 28 [(.slc .ac)] :=
 (Go.Vm.yb (S:=fun _=>True) .ac Tryz.underlying28 (by kernel_rfl) rfl (by decide) (Go.Vm.jK Tryz.underlying25 (by kernel_rfl) (Go.Vm.bF.cons (s := [(.int .i64)]) (s' := [(.int .i64),(.int .i64),(.int .i64),(.int .i64),(.int .i64),(.int .i64), .str, .str, .str, .str]) rfl (by kernel_rfl) (Go.Vm.dC Tryz.underlying3 (by decide)) (Go.Vm.bF.cons (s := [(.int .i64)]) (s' := [(.int .i64),(.int .i64),(.int .i64),(.int .i64),(.int .i64), .str, .str, .str, .str]) rfl (by kernel_rfl) (Go.Vm.dC Tryz.underlying3 (by decide)) (Go.Vm.bF.cons (s := [(.int .i64)]) (s' := [(.int .i64),(.int .i64),(.int .i64),(.int .i64), .str, .str, .str, .str]) rfl (by kernel_rfl) (Go.Vm.dC Tryz.underlying3 (by decide)) (Go.Vm.bF.cons (s := [(.int .i64)]) (s' := [(.int .i64),(.int .i64),(.int .i64), .str, .str, .str, .str]) rfl (by kernel_rfl) (Go.Vm.dC Tryz.underlying3 (by decide)) (Go.Vm.bF.cons (s := [(.int .i64),(.int .i64),(.int .i64), .str, .str, .str, .str]) (s' := []) rfl (by kernel_rfl) (Go.Vm.jK Tryz.underlying23 (by kernel_rfl) (Go.Vm.bF.cons (s := [(.int .i64)]) (s' := [(.int .i64),(.int .i64), .str, .str, .str, .str]) rfl (by kernel_rfl) (Go.Vm.dC Tryz.underlying3 (by decide)) (Go.Vm.bF.cons (s := [(.int .i64)]) (s' := [(.int .i64), .str, .str, .str, .str]) rfl (by kernel_rfl) (Go.Vm.dC Tryz.underlying3 (by decide)) (Go.Vm.bF.cons (s := [(.int .i64)]) (s' := [.str, .str, .str, .str]) rfl (by kernel_rfl) (Go.Vm.dC Tryz.underlying3 (by decide)) (Go.Vm.bF.cons (s := [.str]) (s' := [.str, .str, .str]) rfl (by kernel_rfl) (Go.Vm.gy Tryz.underlying9) (Go.Vm.bF.cons (s := [.str]) (s' := [.str, .str]) rfl (by kernel_rfl) (Go.Vm.gy Tryz.underlying9) (Go.Vm.bF.cons (s := [.str]) (s' := [.str]) rfl (by kernel_rfl) (Go.Vm.gy Tryz.underlying9) (Go.Vm.bF.cons (s := [.str]) (s' := []) rfl (by kernel_rfl) (Go.Vm.gy Tryz.underlying9) (Go.Vm.bF.nil _))))))))) (Go.Vm.bF.nil _))))))) (fun x=>x) (fun x=>rfl) (fun _ _ _=>trivial))
def laid:List (String×DataW Unit) := [("math/bits.deBruijn32tab",Rows.laid_math_bits_deBruijn32tab),("math/bits.deBruijn64tab",Rows.laid_math_bits_deBruijn64tab),("internal/strconv.uint64pow10",Rows.laid_internal_strconv_uint64pow10),("unicode/utf8.acceptRanges",Rows.laid_unicode_utf8_acceptRanges),("strconv.ErrRange",Rows.laid_strconv_ErrRange),("strconv.ErrSyntax",Rows.laid_strconv_ErrSyntax),("unicode/utf8.first",Rows.laid_unicode_utf8_first)]
set_option maxRecDepth 100000 in
theorem glOf {w:World} (h0:laidMetH Tryz.prog laid w) (hS:w.ShapedOpen Tryz.prog):Go.Vm.kt.gl w:=by
 have h:laidMet Tryz.prog laid w:=by rw [← MakeChecks.laidMetH_plain _ _ _ (by kernel_rfl)]; exact h0
 have t0:=Go.Vm.lX h (name := "internal/strconv.uint64pow10") (k := .u64) (zs:=Go.Lib.pow10Tab) (List.mem_of_getElem? (i:=2) rfl) (by kernel_rfl) (g:=3) (by kernel_rfl) rfl rfl rfl (by kernel_rfl) (by kernel_rfl)
 have e0:=Go.Vm.fJ h (name := "strconv.ErrSyntax") (List.mem_of_getElem? (i:=5) rfl) (g:=6) (by kernel_rfl) rfl rfl
 have e1:=Go.Vm.fJ h (name := "strconv.ErrRange") (List.mem_of_getElem? (i:=4) rfl) (g:=7) (by kernel_rfl) rfl rfl
 have u0:=Go.Vm.kU (ρ:=Go.Vm.Vld.eX) (U8Types.of196 Go.Vm.Vld.fC) ⟨by kernel_rfl,by kernel_rfl,by kernel_rfl,by kernel_rfl,by kernel_rfl,by kernel_rfl,by kernel_rfl⟩ h (List.mem_of_getElem? (i:=6) (by kernel_rfl)) (List.mem_of_getElem? (i:=3) (by kernel_rfl))
 have i0:=Go.Proofs.cell_of_shapedOpen_int (g:=2) hS (of_decide_eq_true (by kernel_rfl)) (zero := #[.int .i64 0]) (t:=3) (by kernel_rfl) rfl (by kernel_rfl) (by kernel_rfl) Tryz.underlying3
 refine ⟨e1.2,fun x hx => ?_,fun g hg => ?_,⟨u0,fun g hg=>by simp only [List.mem_cons,List.not_mem_nil,or_false] at hg; rcases hg with rfl <;> first | exact i0⟩⟩
 ·simp only [List.mem_cons,List.not_mem_nil,or_false] at hx
  rcases hx with rfl
  ·exact t0
 ·simp only [List.mem_cons,List.not_mem_nil,or_false] at hg
  rcases hg with rfl | rfl
  ·exact e0.1
  ·exact e1.1
set_option maxHeartbeats 2000000 in
set_option maxRecDepth 100000 in
theorem lifted (os:Os) (started:os.Started) (H:Type) (enc:TypeId×Value→H) :
  ReturnsInHanded {} Tryz.checked os 6 .any (fun w args=>(Rows.scriptLinesSpec.pre enc Tryz.prog Tryz.f6 [] false w args∧laidMetH Tryz.prog laid w)∧sizedMet enc Tryz.prog Tryz.f6 (OpenSpec.ofChange Rows.scriptLinesSpec) false w args) (Rows.scriptLinesSpec.post enc Tryz.prog Tryz.f6 false true false false):=by
 refine Go.Vm.jO (C:=Tryz.checked) (X:=fun w _=>laidMetH Tryz.prog laid w) (fun _ _ _ hh h=>h.of_heap hh) own started (by kernel_rfl) Tryz.func6
  (ChangeSpec.witness_shaped (enc:=enc) (C:=Tryz.checked) (os:=os) (X:=fun w _=>laidMetH Tryz.prog laid w) false (World.laidAll Tryz.prog os laid) #[.slice none 0 0] 8 (World.laidAll_os _ _ _)
   (World.shaped_of_ZipB (by kernel_rfl) (by kernel_rfl)) (by kernel_rfl) (by kernel_rfl) (by kernel_rfl)
   (by rw [MakeChecks.laidMetH_plain _ _ _ (by kernel_rfl)]; exact laidMet_laidAll _ (by kernel_rfl) (by kernel_rfl))) ?_
 intro W base args ds gs before hval0 hW hcnd hsz0 hL hS _
 have hsz:(DataW.weightsEach Tryz.prog (Tryz.f6.params.toList ++ Rows.scriptLinesSpec.plain.varTypes Tryz.prog) (ds ++ gs)).all (· ≤ reachBytes)=true:=hsz0
 have hval : ∀ (j:Nat) t v,Tryz.f6.params[j]? = some t→args[j]? = some v→Value.okWide Tryz.prog W .any base t v:=hval0
 have hW':=hW
 obtain ⟨p,q,hA0,hV,rfl,hfz,hnd⟩:=hW
 have hA:DataW.TrodAll enc Tryz.prog W 0 (fun _=>true) true Tryz.f6.params.toList args.toList ds p:=hA0
 rw [Tryz.params6] at hA hval hsz
 obtain ⟨v0,vs0,d0,ds0,p0,q0,hargs,rfl,rfl,h0,r0⟩:=trodAll_cons hA
 obtain ⟨rfl,rfl,rfl⟩:=trodAll_nil r0
 obtain rfl:args = #[v0]:=by cases args; simp_all
 obtain ⟨rfl,rfl⟩:=trodVars_none hV
 obtain ⟨b0,len0,cap0,rfl⟩:=okWide_slice Tryz.underlying28 (hval 0 28 v0 rfl rfl)
 have k0:=h0
 have lt0 : ∀ x∈p0,x.block<W.heap.size:=by obtain ⟨m,hm⟩:=k0; exact DataW.trod_lt m _ _ _ hm
 obtain ⟨x0,rr0,gg0⟩:=Go.Vm.xn xX (hval 0 28 _ rfl rfl) h0
 obtain ⟨a0_0,⟨⟩⟩:=x0
 clear hA0 hval0 hsz0 hsz
 obtain ⟨F,hF⟩:=Go.Vm.pure_conciergelaw34_ScriptLines a0_0 gg0
 refine (Go.Vm.pA (Go.Vm.kq F) Tryz.func6 (by kernel_rfl) (by kernel_rfl) hF (ds := [.slc .ac a0_0]) rfl rfl (Go.Vm.yn (Go.Vm.Hx rr0) rfl Go.Vm.eZ.nil) (glOf hL hS)).mono fun e W' ⟨he,bel⟩ => ?_
 subst he
 exact ⟨_,rfl,_,_,_,[],_,[],hW',trodAll_mk1 (shut_bool Tryz.underlying4 _),(trodAll_cons_mk (Below.trod laidOut (by kernel_rfl) (of_decide_eq_true (by kernel_rfl)) k0 bel lt0) trodAll_mk0),rfl,bel.frame _,fun h=>by cases h⟩
theorem over:Rows.scriptLinesRow.holds Tryz.pinned (OpenSpec.ofChange Rows.scriptLinesSpec) :=
 OpenClaim.holds_of_wide 6 Tryz.f6 rfl rfl rfl rfl rfl rfl rfl ⟨rfl,rfl,rfl,rfl,rfl⟩ rfl rfl rfl rfl rfl (by kernel_rfl) Tryz.func6 closed
  (of_decide_eq_true (by kernel_rfl)) (by unfold Func.isWrapper; first | (rw [if_pos (by decide +kernel)]; kernel_rfl) | (rw [if_neg (by decide +kernel)]; exact ⟨rfl,rfl⟩))
  (fun os started H enc _=>lifted os started H enc)
theorem proved:Rows.ScriptLinesCardSaid :=
 Claim7.holds_tied_plain_at .later [] [.data, .data, .data, .data, .sentinel, .sentinel, .pinned] true (true, "3b238c32eddde07b08efdb47ab8cf8927795fba977f84941667a6d1288fdc5db") true over (fun _ h=>by cases h) qH (fun _ h=>by cases h) Go.Proofs.YtcnigpigmhpakaaGreatDoor.scriptLines_row_tie rfl ⟨rfl,rfl⟩ mainIs rfl
  (fun f fn hf hfn=>by
   obtain rfl:f=6:=Option.some.inj (nD.symm.trans hf) |>.symm
   obtain rfl:fn=Tryz.f6:=(Option.some.inj (Tryz.func6.symm.trans hfn)).symm
   exact ⟨looksAt,fun j t ht=>by
    rw [Tryz.params6] at ht
    have hm:t ∈ [28]:=by simpa using Array.mem_of_getElem? ht
    exact (show Tryz.prog.wantsStandIn t=false by simpa using List.all_eq_true.1 nq t hm)⟩)
  goesBy
end Go.Proofs.YtcnigpigmhpakaaGreatDoor.scriptLines
namespace Go.Proofs.YtcnigpigmhpakaaGreatDoor
theorem scriptLines_holds:Rows.ScriptLinesCardSaid:=scriptLines.proved
#print axioms scriptLines_holds
end Go.Proofs.YtcnigpigmhpakaaGreatDoor
