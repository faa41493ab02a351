import Derived.Test.YtihpjgcbmipdbaaGreatDoorV8
import Derived.Shelf.Unicode.ValidAny
import Derived.Lib.LaidU8T
import Derived.Shelf.Strings.SlTrimAscii
import Derived.Test.YtihpjgcbmipdbaaGreatDoorV7
import Derived.Shelf.Strconv.Itoa3
import Derived.Shelf.Strconv.AtoiAll
import Derived.Shelf.Strings.Search2
import Derived.Shelf.Strings.OnBuilder
import Derived.Handed
import Derived.SizedLaws
import Derived.Shelf.Vars
/- Part 9 of an abstract value machine: a framework of this session's own, in which functions of the program are run once and for all inputs. No condition. -/
/- The abstract value machine: unicode/utf8's ValidString, and its tables. -/
namespace Go.Vm
open Go.Proofs Go.Shelf Go.RowKit
set_option linter.unusedVariables false
variable {P:Program} {ρ:Ren}
theorem J3 {g3 g4 gb:Nat} (h3:g3<gb) (h4:g4<gb) (w w':World) (h:Lib.Utf8Tabs g3 g4 w) (hw : ∀ b,b<gb→w'.heap[b]? = w.heap[b]?):Lib.Utf8Tabs g3 g4 w':=by
 refine ⟨fun c hc => ?_,fun i hi => ?_⟩
 ·rw [lR (hw g3 h3)]; exact h.1 c hc
 ·rw [lR (hw g4 h4),lR (hw g4 h4)]; exact h.2 i hi
theorem zl (L:U8Types P ρ) (X:U8Extra P ρ) {w:World} {l:List (String×DataW Unit)} (hm:laidMet P l w) (h3:("unicode/utf8.first",Lib.firstData)∈l) (h4:("unicode/utf8.acceptRanges",Lib.acceptData)∈l):Lib.Utf8Tabs (ρ.g 3) (ρ.g 4) w:=by
 obtain ⟨ps,hl,_⟩:=hm
 exact utf8Tabs_of_readsT L X (Lib.LaidVars_reads hl _ _ h3) (Lib.LaidVars_reads hl _ _ h4)
section
variable {kt:KT}
end
end Go.Vm
/- Part 10 of an abstract value machine: a framework of this session's own, in which functions of the program are run once and for all inputs. No condition. -/
/- The abstract value machine: strings.Trim at a set of ascii bytes. -/
namespace Go.Vm
open Go.Proofs Go.Shelf Go.RowKit
set_option linter.unusedVariables false
variable {P:Program} {ρ:Ren} {kt:KT}
def KG:Spec Kd:={ params := [.a .str, .a .str],ret := .one (.a .str),pins := [],pl:={ nt:=0 },ts := [] }
def Et (x:List UInt8×List UInt8):Option (List UInt8):=if decide (x.1.length≤9223372036854775807)=true then if decide (x.2.length≤4294967280)=true then if (x.2.all fun b=>decide (b.toNat<128))=true then some (Lib.trimS x.1 x.2) else none else none else none
theorem Hl (L:Lays.n160 P ρ) (h116:(P.info? (ρ.t 116)).map (fun i=>(i.zero,i.size))=some (some (.agg (Array.replicate 256 (.bool false))),256)) {f:FuncId} {fn:Func} (hf:P.funcs[f]? = some fn) (hb:fn.body.isSome=true) (hname:(fn.name == "runtime.NumGoroutine")=false) (ef:ρ.f 160=f) :
  Ctr (aH kt) P f (ai (aH kt) KG Et):=by
 refine gD fun x r hx w vs Y bl hown hnd hY hg hgb => ?_
 obtain ⟨s,c⟩:=x
 unfold Et at hx
 split at hx
 case isFalse=>cases hx
 rename_i h1
 split at hx
 case isFalse=>cases hx
 rename_i h2
 split at hx
 case isFalse=>cases hx
 rename_i h3
 have h1:=of_decide_eq_true h1
 have h2:=of_decide_eq_true h2
 cases hx
 obtain ⟨u,v,b1,b2,rfl,o1,o2,rfl⟩:=sL hown
 obtain ⟨rfl,rfl⟩:=kS o1
 obtain ⟨rfl,rfl⟩:=kS o2
 refine .inl ⟨cA hf hb hname,?_⟩
 refine Calls.mono (ef ▸ Any.strings_Trim_laid L h116 ⟨s.toArray⟩ ⟨c.toArray⟩ w (rQ h1) (Nat.lt_of_le_of_lt (rQ h2) (by decide)) (by simpa using ascii_of_all h3)) ?_
 rintro e w' ⟨rfl,hw⟩
 refine ⟨_,[],[],rfl,by simp,by simp, .c (.sh (rh (⟨(Lib.trimS s c).toArray⟩:ByteArray)) ?_), .skip (by intro t cs; exact ⟨nofun,nofun⟩) (.skip (by intro t cs; exact ⟨nofun,nofun⟩) .nil),⟨hw.os,hw.tape,hw.output,hw.size,fun k hk _=>hw.block k hk⟩⟩
 rfl
end Go.Vm
/- Part 11 of an abstract value machine: a framework of this session's own, in which functions of the program are run once and for all inputs. No condition. -/
/- The abstract value machine: strconv's Itoa, Atoi of any text; strings.Join; where one text stands in another. -/
namespace Go.Vm
open Go.Proofs Go.Shelf Go.RowKit Go.Sort Go.Lib
set_option linter.unusedVariables false
def zI (l:List Nat) (w:World):Prop := ∀ g∈l, ∃ m,w.cell? ⟨g,0,none⟩=some (.int .i64 m)
theorem CW {l:List Nat} {gb:Nat} (hl : ∀ g∈l,g<gb) (w w':World) (h:zI l w) (hw : ∀ b,b<gb→w'.heap[b]? = w.heap[b]?):zI l w':=by
 intro g hg
 obtain ⟨m,hm⟩:=h g hg
 exact ⟨m,by rw [lR (hw g (hl g hg))]; exact hm⟩
theorem xk {H:Type} {enc:TypeId×Value→H} {a:Assume} {C:Checked} {os:Os} {f:FuncId} {fn:Func} {s:ChangeSpec} {conds:List PathCond} {apart fresh handsOn again:Bool} {X:World→Array Value→Prop}
  (hX : ∀ (w w':World) (args:Array Value),w.heap=w'.heap→X w args→X w' args)
  (own:ownKnob C.prog.godebug=none) (started:os.Started) (noInit:C.prog.inits.idxOf? f=none) (hfn:C.prog.funcs[f]? = some fn)
  (witness : ∃ (w:World) (tape:Tape) (i:Input),w.os=os∧(w.forCall tape i).Shaped C.prog∧i.vars = []∧Input.okWide C.prog (w.forCall tape i) .any w.heap.size f i ∧
   ((s.pre enc C.prog fn conds apart (w.forCall tape i).memory i.args∧X (w.forCall tape i).memory i.args)∧sizedMet enc C.prog fn (OpenSpec.ofChange s) apart (w.forCall tape i).memory i.args)∧a.holds C.prog (lone (Frame.enter C.prog f i.args .normal) [] (w.forCall tape i)))
  (contract : ∀ (W:World) (base:Nat) (args:Array Value) (ds gs:List (DataW H)) (before:List MemPlace),
   (∀ (j:Nat) t v,fn.params[j]? = some t→args[j]? = some v→Value.okWide C.prog W .any base t v) →
   DataW.Whole enc C.prog fn.params.toList s.vars apart W args.toList ds gs before →
   conds.all (PathCond.test C.prog ⟨fn.params.toList,ds,s.plain.varTypes C.prog,gs⟩)=true →
   (DataW.weightsEach C.prog (fn.params.toList ++ s.plain.varTypes C.prog) (ds ++ gs)).all (· ≤ reachBytes)=true→X W args→W.ShapedOpen C.prog →
   a.holds C.prog (lone (Frame.enter C.prog f args .normal) [] W) →
   Calls C.prog f args W fun e W' => ∃ v,e = .returned v∧s.post enc C.prog fn apart fresh handsOn again W args v W') :
  ReturnsInHanded a C os f .any (fun w args=>(s.pre enc C.prog fn conds apart w args∧X w args)∧sizedMet enc C.prog fn (OpenSpec.ofChange s) apart w args) (s.post enc C.prog fn apart fresh handsOn again):=by
 refine returnsInHanded_of_calls own started noInit witness ?_
 intro w tape i _ hsh _ hok hpre hholds
 obtain ⟨_,_,_,fn',hfn',_,_,_,_,hval⟩:=hok
 have e:fn'=fn:=Option.some.inj (hfn'.symm.trans hfn)
 subst e
 obtain ⟨⟨⟨ds,gs,before,hw,hc⟩,hx⟩,hz⟩:=hpre
 have hw':=DataW.Whole.of_heap (w':=w.forCall tape i) (by rfl) hw
 refine (contract (w.forCall tape i) w.heap.size i.args ds gs before hval hw' hc (hz.weights hw) (hX _ _ _ (by rfl) hx) hsh hholds).mono fun e W' ⟨v,he,hp⟩ => ?_
 subst he
 exact ChangeSpec.post_blind hp
section
variable {P:Program} {ρ:Ren} {kt:KT}
def KO:Spec Kd:={ params := [.a (.int .i64)],ret := .one (.a .str),pins := [],pl:={ nt:=0 },ts := [] }
def Bm (x:Int):Option (List UInt8):=if decide (-9223372036854775808≤x)=true then if decide (x≤9223372036854775807)=true then some (Lib.itoa x) else none else none
theorem Dg {x:Int} {r:List UInt8} (h:Bm x=some r) : -9223372036854775808≤x∧x≤9223372036854775807∧r=Lib.itoa x:=by
 unfold Bm at h
 split at h
 case isFalse=>cases h
 split at h
 case isFalse=>cases h
 rename_i h1 h2
 cases h
 exact ⟨of_decide_eq_true h1,of_decide_eq_true h2,rfl⟩
theorem HK (L:LaysM.n171 P ρ) (hgl : ∀ w,kt.gl w→Lib.TabIs P w "internal/strconv.uint64pow10" .u64 Lib.pow10Tab) {f:FuncId} {fn:Func} (hf:P.funcs[f]? = some fn) (hb:fn.body.isSome=true) (hname:(fn.name == "runtime.NumGoroutine")=false) (ef:ρ.f 171=f) :
  Ctr (aH kt) P f (ai (aH kt) KO Bm):=by
 refine gD fun x r hx w vs Y bl hown hnd hY hg hgb => ?_
 obtain ⟨h1,h2,rfl⟩:=Dg hx
 obtain ⟨u,rfl,o1⟩:=Av hown
 obtain ⟨rfl,rfl⟩:=uC o1
 refine .inl ⟨cA hf hb hname,?_⟩
 refine Calls.mono (ef ▸ Any.strconv_Itoa L x h1 h2 w (hgl w hg)) ?_
 rintro e w' ⟨rfl,k,os,rfl⟩
 have hw:=below_grow w.heap.size w (Nat.le_refl _) k os
 exact ⟨_,[],[],rfl,by simp,by simp,Ans.c (.sh (.str _) rfl), .skip (by intro t cs; exact ⟨nofun,nofun⟩) .nil,⟨hw.os,hw.tape,hw.output,hw.size,fun k hk _=>hw.block k hk⟩⟩
theorem J4 (l:List UInt8):(⟨l.toArray⟩:ByteArray).data.toList=l:=by simp
def sU (x:List UInt8):Option (Int×Bool):=if decide (x.length≤281474976710656)=true then some (match Lib.atoiAll x with | .ok n=>(n,false) | .range=>(Lib.atoiSat x,true) | _=>(0,true)) else none
theorem FK (L:LaysC.n172 P ρ) (hgl : ∀ w,kt.gl w→(∃ te pe,w.cell? ⟨ρ.g 15,0,none⟩=some (.iface te pe)) ∧ ∃ te pe,w.cell? ⟨ρ.g 16,0,none⟩=some (.iface te pe)) (her:kt.j.er=ρ.t 168) {f:FuncId} {fn:Func} (hf:P.funcs[f]? = some fn) (hb:fn.body.isSome=true) (hname:(fn.name == "runtime.NumGoroutine")=false) (ef:ρ.f 172=f) :
  Ctr (aH kt) P f (ai (aH kt) ud sU):=by
 refine gD fun x r hx w vs Y bl hown hnd hY hg hgb => ?_
 unfold sU at hx
 split at hx
 case isFalse=>cases hx
 rename_i h1
 have h1:=of_decide_eq_true h1
 obtain ⟨u,rfl,o1⟩:=Av hown
 obtain ⟨rfl,rfl⟩:=kS o1
 refine .inl ⟨cA hf hb hname,?_⟩
 have hsz:(⟨x.toArray⟩:ByteArray).size≤281474976710656:=rQ h1
 have fin : ∀ (n:Int) (b:Bool) (v:Value) (w':World),Rep (aH kt) w' (fun b=>(Y b∨w.heap.size≤b∨b∈([]:List Nat))∧b ∉ ([]:List Nat) ++ []) (.any .er b) v→Below w.heap.size w w'→Comes (aH kt) ud (ig (aH kt) ud.params x) (n,b) w [.string ⟨x.toArray⟩] Y [] (.returned (.tuple #[.int .i64 n,v])) w':=by
  intro n b v w' hr hw
  refine ⟨_,[],[],rfl,by simp,by simp,⟨#[.int .i64 n,v],rfl,?_⟩, .skip (by intro t cs; exact ⟨nofun,nofun⟩) .nil,⟨hw.os,hw.tape,hw.output,hw.size,fun k hk _=>hw.block k hk⟩⟩
  exact .cons (b := []) (.c (.sh (sC _ _ rfl) rfl)) (.cons (b := []) (.c (.sh hr rfl)) .nil)
 have bad : ∀ (N:Nat) (w':World),Rep (aH kt) w' (fun b=>(Y b∨w.heap.size≤b∨b∈([]:List Nat))∧b ∉ ([]:List Nat) ++ []) (.any .er true) (.iface (ρ.t 168) (.pointer (some ⟨N,0,none⟩))):=by
  intro N w'
  refine .any ?_
  show Rep (aH kt) _ _ (.ifc kt.j.er .junk) _
  rw [her]
  exact .ifc _ (.junk _)
 obtain ⟨⟨te,pe,hc⟩,te2,pe2,hc2⟩:=hgl w hg
 have hx:=Option.some.inj hx
 cases ha:Lib.atoiAll x with
 | ok n =>
  rw [ha] at hx
  subst hx
  refine Calls.mono (ef ▸ Any.strconv_Atoi_ok L ⟨x.toArray⟩ (by omega) n (by simpa using ha) w) ?_
  rintro e w' ⟨rfl,hw⟩
  refine fin n false .nilIface _ (.any .nili) ?_
  rcases hw with rfl | ⟨t,rfl⟩
  ·exact Below.refl _ _
  ·exact Lib.bytesWorld_below _ _ _
 | range =>
  rw [ha] at hx
  subst hx
  have hs:(⟨x.toArray⟩:ByteArray).data.toList=x:=J4 x
  refine Calls.mono (ef ▸ Any.strconv_Atoi_range L ⟨x.toArray⟩ hsz (by simpa using ha) _ w hc2 (.inr ⟨te2,pe2,rfl⟩)) ?_
  rintro e w' ⟨N,rfl,h2,h3,h4⟩
  rw [hs]
  exact fin _ true _ _ (bad N _) h4
 | _ =>
  rw [ha] at hx
  subst hx
  refine Calls.mono (ef ▸ Any.strconv_Atoi_syntax L ⟨x.toArray⟩ hsz (by simpa using ha) _ w hc (.inr ⟨te,pe,rfl⟩)) ?_
  rintro e w' ⟨N,rfl,h2,h3,h4⟩
  exact fin 0 true _ _ (bad N _) h4
def G1:Spec Kd:={ params := [.a .str, .a .str],ret := .one (.a (.int .i64)),pins := [],pl:={ nt:=0 },ts := [] }
def Au (x:List UInt8×List UInt8):Option Int:=if decide (x.1.length≤4294967280)=true then some (Lib.index x.1 x.2) else none
theorem Gq (L:Lays.n219 P ρ) (hgl : ∀ w,kt.gl w → ∃ m,w.cell? ⟨ρ.g 1,0,none⟩=some (.int .i64 m)) {f:FuncId} {fn:Func} (hf:P.funcs[f]? = some fn) (hb:fn.body.isSome=true) (hname:(fn.name == "runtime.NumGoroutine")=false) (ef:ρ.f 219=f) :
  Ctr (aH kt) P f (ai (aH kt) G1 Au):=by
 refine gD fun x r hx w vs Y bl hown hnd hY hg hgb => ?_
 obtain ⟨s,c⟩:=x
 unfold Au at hx
 split at hx
 case isFalse=>cases hx
 rename_i h1
 have h1:s.length≤4294967280:=of_decide_eq_true h1
 cases hx
 obtain ⟨u,v,b1,b2,rfl,o1,o2,rfl⟩:=sL hown
 obtain ⟨rfl,rfl⟩:=kS o1
 obtain ⟨rfl,rfl⟩:=kS o2
 refine .inl ⟨cA hf hb hname,?_⟩
 obtain ⟨m,hm⟩:=hgl w hg
 have hsz:(⟨s.toArray⟩:ByteArray).size≤4294967280:=rQ h1
 refine Calls.mono (ef ▸ Any.stringslite_Index L ⟨s.toArray⟩ ⟨c.toArray⟩ m w (by omega) hm) ?_
 rintro e w' ⟨rfl,rfl⟩
 exact ⟨_,[],[],rfl,by simp,by simp,Ans.c (.sh (sC _ _ rfl) rfl), .skip (by intro t cs; exact ⟨nofun,nofun⟩) (.skip (by intro t cs; exact ⟨nofun,nofun⟩) .nil),⟨rfl,rfl,rfl,Nat.le_refl _,fun _ _ _=>rfl⟩⟩
end
end Go.Vm
