import Derived.Test.YtcnigpigmhpakaaGreatDoorV8
import Derived.Shelf.Unicode.ValidAny
import Derived.Lib.LaidU8T
import Derived.Shelf.Strings.SlTrimAscii
import Derived.Test.YtcnigpigmhpakaaGreatDoorV7
import Derived.Shelf.Strconv.Itoa3
import Derived.Shelf.Strconv.AtoiAll
import Derived.Shelf.Strings.Search2
import Derived.Shelf.Strings.OnBuilder
import Derived.Handed
import Derived.SizedLaws
import Derived.Shelf.Vars
/- Part 9 of an abstract value machine: a framework of this session's own, in which functions of the program are run once and for all inputs. No condition. -/
/- The abstract value machine: unicode/utf8's ValidString, and its tables. -/
namespace Go.Vm
open Go.Proofs Go.Shelf Go.RowKit
set_option linter.unusedVariables false
variable {P:Program} {ρ:Ren}
theorem Ht {g3 g4 gb:Nat} (h3:g3<gb) (h4:g4<gb) (w w':World) (h:Lib.Utf8Tabs g3 g4 w) (hw : ∀ b,b<gb→w'.heap[b]? = w.heap[b]?):Lib.Utf8Tabs g3 g4 w':=by
 refine ⟨fun c hc => ?_,fun i hi => ?_⟩
 ·rw [lK (hw g3 h3)]; exact h.1 c hc
 ·rw [lK (hw g4 h4),lK (hw g4 h4)]; exact h.2 i hi
theorem kU (L:U8Types P ρ) (X:U8Extra P ρ) {w:World} {l:List (String×DataW Unit)} (hm:laidMet P l w) (h3:("unicode/utf8.first",Lib.firstData)∈l) (h4:("unicode/utf8.acceptRanges",Lib.acceptData)∈l):Lib.Utf8Tabs (ρ.g 3) (ρ.g 4) w:=by
 obtain ⟨ps,hl,_⟩:=hm
 exact utf8Tabs_of_readsT L X (Lib.LaidVars_reads hl _ _ h3) (Lib.LaidVars_reads hl _ _ h4)
section
variable {kt:KT}
def Fc:Spec Kd:={ params := [.a .str],ret := .one (.a .bool),pins := [],pl:={ nt:=0 },ts := [] }
def zd (x:List UInt8):Option Bool:=if decide (x.length≤9223372036854775807)=true then some (Lib.validD x) else none
theorem DK (L:Lays.n196 P ρ) (hgl : ∀ w,kt.gl w→Lib.Utf8Tabs (ρ.g 3) (ρ.g 4) w) {f:FuncId} {fn:Func} (hf:P.funcs[f]? = some fn) (hb:fn.body.isSome=true) (hname:(fn.name == "runtime.NumGoroutine")=false) (ef:ρ.f 196=f) :
  Ctr (aX kt) P f (ak (aX kt) Fc zd):=by
 refine js fun x r hx w vs Y bl hown hnd hY hg hgb => ?_
 unfold zd at hx
 split at hx
 case isFalse=>cases hx
 rename_i h1
 have h1:=of_decide_eq_true h1
 cases hx
 obtain ⟨u,rfl,o1⟩:=zy hown
 obtain ⟨rfl,rfl⟩:=pB o1
 refine .inl ⟨dz hf hb hname,?_⟩
 refine Calls.mono (ef ▸ Any.utf8_ValidString L ⟨x.toArray⟩ w (y8 h1) (hgl w hg)) ?_
 rintro e w' ⟨rfl,hw⟩
 refine ⟨_,[],[],rfl,by simp,by simp, .c (.sh (F7 _) rfl), .skip (by intro t cs; exact ⟨nofun,nofun⟩) .nil,⟨hw.os,hw.tape,hw.output,hw.size,fun k hk _=>hw.block k hk⟩⟩
end
end Go.Vm
/- Part 10 of an abstract value machine: a framework of this session's own, in which functions of the program are run once and for all inputs. No condition. -/
/- The abstract value machine: strings.Trim at a set of ascii bytes. -/
namespace Go.Vm
open Go.Proofs Go.Shelf Go.RowKit
set_option linter.unusedVariables false
variable {P:Program} {ρ:Ren} {kt:KT}
end Go.Vm
/- Part 11 of an abstract value machine: a framework of this session's own, in which functions of the program are run once and for all inputs. No condition. -/
/- The abstract value machine: strconv's Itoa, Atoi of any text; strings.Join; where one text stands in another. -/
namespace Go.Vm
open Go.Proofs Go.Shelf Go.RowKit Go.Sort Go.Lib
set_option linter.unusedVariables false
def ze (l:List Nat) (w:World):Prop := ∀ g∈l, ∃ m,w.cell? ⟨g,0,none⟩=some (.int .i64 m)
theorem B0 {l:List Nat} {gb:Nat} (hl : ∀ g∈l,g<gb) (w w':World) (h:ze l w) (hw : ∀ b,b<gb→w'.heap[b]? = w.heap[b]?):ze l w':=by
 intro g hg
 obtain ⟨m,hm⟩:=h g hg
 exact ⟨m,by rw [lK (hw g (hl g hg))]; exact hm⟩
theorem jO {H:Type} {enc:TypeId×Value→H} {a:Assume} {C:Checked} {os:Os} {f:FuncId} {fn:Func} {s:ChangeSpec} {conds:List PathCond} {apart fresh handsOn again:Bool} {X:World→Array Value→Prop}
  (hX : ∀ (w w':World) (args:Array Value),w.heap=w'.heap→X w args→X w' args)
  (own:ownKnob C.prog.godebug=none) (started:os.Started) (noInit:C.prog.inits.idxOf? f=none) (hfn:C.prog.funcs[f]? = some fn)
  (witness : ∃ (w:World) (tape:Tape) (i:Input),w.os=os∧(w.forCall tape i).Shaped C.prog∧i.vars = []∧Input.okWide C.prog (w.forCall tape i) .any w.heap.size f i ∧
   ((s.pre enc C.prog fn conds apart (w.forCall tape i).memory i.args∧X (w.forCall tape i).memory i.args)∧sizedMet enc C.prog fn (OpenSpec.ofChange s) apart (w.forCall tape i).memory i.args)∧a.holds C.prog (lone (Frame.enter C.prog f i.args .normal) [] (w.forCall tape i)))
  (contract : ∀ (W:World) (base:Nat) (args:Array Value) (ds gs:List (DataW H)) (before:List MemPlace),
   (∀ (j:Nat) t v,fn.params[j]? = some t→args[j]? = some v→Value.okWide C.prog W .any base t v) →
   DataW.Whole enc C.prog fn.params.toList s.vars apart W args.toList ds gs before →
   conds.all (PathCond.test C.prog ⟨fn.params.toList,ds,s.plain.varTypes C.prog,gs⟩)=true →
   (DataW.weightsEach C.prog (fn.params.toList ++ s.plain.varTypes C.prog) (ds ++ gs)).all (· ≤ reachBytes)=true→X W args→W.ShapedOpen C.prog →
   a.holds C.prog (lone (Frame.enter C.prog f args .normal) [] W) →
   Calls C.prog f args W fun e W' => ∃ v,e = .returned v∧s.post enc C.prog fn apart fresh handsOn again W args v W') :
  ReturnsInHanded a C os f .any (fun w args=>(s.pre enc C.prog fn conds apart w args∧X w args)∧sizedMet enc C.prog fn (OpenSpec.ofChange s) apart w args) (s.post enc C.prog fn apart fresh handsOn again):=by
 refine returnsInHanded_of_calls own started noInit witness ?_
 intro w tape i _ hsh _ hok hpre hholds
 obtain ⟨_,_,_,fn',hfn',_,_,_,_,hval⟩:=hok
 have e:fn'=fn:=Option.some.inj (hfn'.symm.trans hfn)
 subst e
 obtain ⟨⟨⟨ds,gs,before,hw,hc⟩,hx⟩,hz⟩:=hpre
 have hw':=DataW.Whole.of_heap (w':=w.forCall tape i) (by rfl) hw
 refine (contract (w.forCall tape i) w.heap.size i.args ds gs before hval hw' hc (hz.weights hw) (hX _ _ _ (by rfl) hx) hsh hholds).mono fun e W' ⟨v,he,hp⟩ => ?_
 subst he
 exact ChangeSpec.post_blind hp
section
variable {P:Program} {ρ:Ren} {kt:KT}
def Jb:Spec Kd:={ params := [.a (.int .i64)],ret := .one (.a .str),pins := [],pl:={ nt:=0 },ts := [] }
def zE (x:Int):Option (List UInt8):=if decide (-9223372036854775808≤x)=true then if decide (x≤9223372036854775807)=true then some (Lib.itoa x) else none else none
theorem Bf {x:Int} {r:List UInt8} (h:zE x=some r) : -9223372036854775808≤x∧x≤9223372036854775807∧r=Lib.itoa x:=by
 unfold zE at h
 split at h
 case isFalse=>cases h
 split at h
 case isFalse=>cases h
 rename_i h1 h2
 cases h
 exact ⟨of_decide_eq_true h1,of_decide_eq_true h2,rfl⟩
theorem Gf (L:LaysM.n171 P ρ) (hgl : ∀ w,kt.gl w→Lib.TabIs P w "internal/strconv.uint64pow10" .u64 Lib.pow10Tab) {f:FuncId} {fn:Func} (hf:P.funcs[f]? = some fn) (hb:fn.body.isSome=true) (hname:(fn.name == "runtime.NumGoroutine")=false) (ef:ρ.f 171=f) :
  Ctr (aX kt) P f (ak (aX kt) Jb zE):=by
 refine js fun x r hx w vs Y bl hown hnd hY hg hgb => ?_
 obtain ⟨h1,h2,rfl⟩:=Bf hx
 obtain ⟨u,rfl,o1⟩:=zy hown
 obtain ⟨rfl,rfl⟩:=CP o1
 refine .inl ⟨dz hf hb hname,?_⟩
 refine Calls.mono (ef ▸ Any.strconv_Itoa L x h1 h2 w (hgl w hg)) ?_
 rintro e w' ⟨rfl,k,os,rfl⟩
 have hw:=below_grow w.heap.size w (Nat.le_refl _) k os
 exact ⟨_,[],[],rfl,by simp,by simp,Ans.c (.sh (.str _) rfl), .skip (by intro t cs; exact ⟨nofun,nofun⟩) .nil,⟨hw.os,hw.tape,hw.output,hw.size,fun k hk _=>hw.block k hk⟩⟩
def Hd:Spec Kd:={ params := [.a .str, .a .str],ret := .one (.a (.int .i64)),pins := [],pl:={ nt:=0 },ts := [] }
def xW (x:List UInt8×List UInt8):Option Int:=if decide (x.1.length≤4294967280)=true then some (Lib.index x.1 x.2) else none
theorem Dy (L:Lays.n219 P ρ) (hgl : ∀ w,kt.gl w → ∃ m,w.cell? ⟨ρ.g 1,0,none⟩=some (.int .i64 m)) {f:FuncId} {fn:Func} (hf:P.funcs[f]? = some fn) (hb:fn.body.isSome=true) (hname:(fn.name == "runtime.NumGoroutine")=false) (ef:ρ.f 219=f) :
  Ctr (aX kt) P f (ak (aX kt) Hd xW):=by
 refine js fun x r hx w vs Y bl hown hnd hY hg hgb => ?_
 obtain ⟨s,c⟩:=x
 unfold xW at hx
 split at hx
 case isFalse=>cases hx
 rename_i h1
 have h1:s.length≤4294967280:=of_decide_eq_true h1
 cases hx
 obtain ⟨u,v,b1,b2,rfl,o1,o2,rfl⟩:=tY hown
 obtain ⟨rfl,rfl⟩:=pB o1
 obtain ⟨rfl,rfl⟩:=pB o2
 refine .inl ⟨dz hf hb hname,?_⟩
 obtain ⟨m,hm⟩:=hgl w hg
 have hsz:(⟨s.toArray⟩:ByteArray).size≤4294967280:=y8 h1
 refine Calls.mono (ef ▸ Any.stringslite_Index L ⟨s.toArray⟩ ⟨c.toArray⟩ m w (by omega) hm) ?_
 rintro e w' ⟨rfl,rfl⟩
 exact ⟨_,[],[],rfl,by simp,by simp,Ans.c (.sh (yG _ _ rfl) rfl), .skip (by intro t cs; exact ⟨nofun,nofun⟩) (.skip (by intro t cs; exact ⟨nofun,nofun⟩) .nil),⟨rfl,rfl,rfl,Nat.le_refl _,fun _ _ _=>rfl⟩⟩
theorem Fe {w:World} {Y:Nat→Prop} {l:List (List UInt8)} {v:Value} {bl:List Nat} (h:Own (aX kt) w Y (.slc .str l) v bl) :
  bl = []∧((l = [] ∧ ∃ a c,v = .slice a 0 c) ∨ ∃ b off cap,v = .slice (some ⟨b,off,none⟩) l.length cap∧l.length≤cap∧b<w.heap.size ∧ ∀ (j:Nat) x,(l.map fun s=>(⟨s.toArray⟩:ByteArray))[j]? = some x→w.cell? ⟨b,off+j,none⟩=some (.string x)):=by
 cases h with
 | c h =>
  cases h with
  | sh hr hs =>
   refine ⟨rfl,?_⟩
   cases hr with
   | slcn k=>exact .inl ⟨rfl,_,_,rfl⟩
   | slcz k a c=>exact .inl ⟨rfl,_,_,rfl⟩
   | slc cap f hn hX hc hr ho =>
    rename_i b off
    rcases Nat.eq_zero_or_pos l.length with h0 | h0
    ·obtain rfl:l = []:=List.length_eq_zero_iff.1 h0
     exact .inl ⟨rfl,_,_,rfl⟩
    ·refine .inr ⟨b,off,cap,rfl,hn,(hX h0).2,fun j x hx => ?_⟩
     rw [List.getElem?_map] at hx
     obtain ⟨s,hs1,rfl⟩:=Option.map_eq_some_iff.1 hx
     obtain ⟨hj,rfl⟩:=List.getElem?_eq_some_iff.1 hs1
     have e1:j * (aX kt).sz .str+0=j:=by show j * 1+0=j; omega
     have h2:Rep (aX kt) w Y (.str l[j]) (f (j * (aX kt).sz .str+0)):=hr j hj 0 (Nat.lt_succ_self 0)
     rw [e1] at h2
     rw [hc j (by show j<l.length * 1; omega)]
     generalize f j=u at h2
     cases h2
     rfl
theorem Ct (L:Lays.n156 P ρ) (X:Builder.Extra P ρ) (b off cap:Nat) (l:List (List UInt8)) (c:List UInt8) (w:World) (hcells : ∀ (j:Nat) x,(l.map fun s=>(⟨s.toArray⟩:ByteArray))[j]? = some x→w.cell? ⟨b,off+j,none⟩=some (.string x)) (hlt:b<w.heap.size) (hN:l.length≤140737488355328) (hcap:l.length≤cap) (h2:(Lib.join l c).length≤140737488355328) :
  Calls P (ρ.f 156) #[.slice (some ⟨b,off,none⟩) l.length cap, .string ⟨c.toArray⟩] w fun e w'=>e = .returned (.string ⟨(Lib.join l c).toArray⟩)∧Below w.heap.size w w':=by
 have e1:(l.map fun s=>(⟨s.toArray⟩:ByteArray)).map (fun x=>x.data.toList)=l:=by rw [List.map_map]; simp [Function.comp_def]
 have hJ:=Any.strings_Join L X b off cap (l.map fun s=>(⟨s.toArray⟩:ByteArray)) ⟨c.toArray⟩ w hcells hlt (by rw [List.length_map]; omega) (by rw [List.length_map]; omega) (by rw [e1]; exact h2)
 rw [e1,List.length_map] at hJ
 exact hJ
def CW:Spec Kd:={ params := [.a (.slc .str), .a .str],ret := .one (.a .str),pins := [],pl:={ nt:=0 },ts := [] }
def A7 (x:List (List UInt8)×List UInt8):Option (List UInt8):=if decide (x.1.length≤140737488355328)=true then if decide ((Lib.join x.1 x.2).length≤140737488355328)=true then some (Lib.join x.1 x.2) else none else none
theorem FM (L:Lays.n156 P ρ) (X:Builder.Extra P ρ) {f:FuncId} {fn:Func} (hf:P.funcs[f]? = some fn) (hb:fn.body.isSome=true) (hname:(fn.name == "runtime.NumGoroutine")=false) (ef:ρ.f 156=f) :
  Ctr (aX kt) P f (ak (aX kt) CW A7):=by
 refine js fun x r hx w vs Y bl hown hnd hY hg hgb => ?_
 obtain ⟨l,c⟩:=x
 unfold A7 at hx
 split at hx
 case isFalse=>cases hx
 rename_i h1
 have h1:l.length≤140737488355328:=of_decide_eq_true h1
 split at hx
 case isFalse=>cases hx
 rename_i h2
 have h2:(Lib.join l c).length≤140737488355328:=of_decide_eq_true h2
 cases hx
 obtain ⟨u,v,b1,b2,rfl,o1,o2,rfl⟩:=tY hown
 obtain ⟨rfl,rfl⟩:=pB o2
 obtain ⟨rfl,o3⟩:=Fe o1
 refine .inl ⟨dz hf hb hname,?_⟩
 have fin : ∀ (e:Ending) (w':World),e = .returned (.string ⟨(Lib.join l c).toArray⟩)→Below w.heap.size w w'→Comes (aX kt) CW (iv (aX kt) CW.params (l,c)) (Lib.join l c) w [u, .string ⟨c.toArray⟩] Y [] e w':=by
  rintro e w' rfl hw
  exact ⟨_,[],[],rfl,by simp,by simp,Ans.c (.sh (.str _) rfl), .skip (by intro t cs; exact ⟨nofun,nofun⟩) (.skip (by intro t cs; exact ⟨nofun,nofun⟩) .nil),⟨hw.os,hw.tape,hw.output,hw.size,fun k hk _=>hw.block k hk⟩⟩
 rcases o3 with ⟨rfl,a,cap,rfl⟩ | ⟨b,off,cap,rfl,hcap,hlt,hcells⟩
 ·refine Calls.mono (ef ▸ Any.strings_Join_none L X a cap ⟨c.toArray⟩ w) ?_
  rintro e w' ⟨rfl,rfl⟩
  exact fin _ _ rfl (Below.refl _ _)
 ·have hJ:=Ct L X b off cap l c w hcells hlt h1 hcap h2
  refine Calls.mono (ef ▸ hJ) ?_
  rintro e w' ⟨rfl,hw⟩
  exact fin _ _ rfl hw
end
end Go.Vm
