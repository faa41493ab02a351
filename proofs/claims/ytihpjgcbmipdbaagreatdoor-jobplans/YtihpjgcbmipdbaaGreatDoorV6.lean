import Derived.Test.YtihpjgcbmipdbaaGreatDoorV4
import Derived.Shelf.Strings.Builder1
import Derived.Laws.World
import Derived.Laws.NewBlocks
import Derived.Shelf.Strings.Split
import Derived.Lib.IndexBytes
set_option linter.unusedVariables false
namespace Go.Vm
open Go.Proofs Go.Shelf Go.RowKit
variable {P:Program} {ρ:Ren}
set_option maxHeartbeats 1000000 in
set_option maxRecDepth 100000 in
theorem R9 (L:Lays.n169 P ρ) (X:Builder.Extra P ρ) (b:Nat) (p:Value) (a:Option Addr) (n c:Nat) (q:Option Addr) (s:ByteArray) (w w1 w2:World)
  (W6:w.heap[b]? = some (.cells #[p,.slice a n c] (ρ.t 72) (0,0)))
  (hSD:(Builtin.unsafeSliceData_ #[(ρ.t 37)] (ρ.t 127) #[.slice a n c]).run P w.drew = .ok (.pointer q) w1)
  (c2:w1.cell? ⟨b,1,none⟩=some (.slice a n c))
  (hUS:(Builtin.unsafeString_ #[(ρ.t 127),(ρ.t 3)] (ρ.t 9) #[.pointer q,.int .i64 n]).run P w1 = .ok (.string s) w2) :
  Calls P (ρ.f 169) #[.pointer (some ⟨b,0,none⟩)] w fun e w'=>e = .returned (.string s)/\w'=w2:=by
 have c1:w.drew.cell? ⟨b,1,none⟩=some (.slice a n c):=by
  have:w.drew.heap[b]? = some (.cells #[p,.slice a n c] (ρ.t 72) (0,0)):=W6;rw[Lib.cell_of_heap this]; rfl
 have m0:=L.mixed;have x1:=L.t72; have x2:=L.a72; have x3:=L.z72; have x4:=L.v72; have x5:=run_underlying L.t72;have y1:=L.t70; have y2:=L.a70; have y3:=L.z70; have y4:=L.v70; have y5:=run_underlying L.t70;have k1:=L.t37; have k2:=L.a37; have k3:=L.z37; have k4:=L.v37; have k5:=run_underlying L.t37;have l1:=L.t127; have l2:=L.a127; have l3:=L.z127; have l4:=L.v127; have l5:=run_underlying L.t127;have n1:=L.t3; have n2:=L.a3; have n3:=L.z3; have n4:=L.v3; have n5:=run_underlying L.t3;have o1:=L.t9; have o2:=L.a9; have o3:=L.z9; have o4:=L.v9; have o5:=run_underlying L.t9
 go_enter L.f169,Body.n169_ntmps ρ
 go_wp2
 go_region_o
 all_goals (go_wp2; go_ret; exact ⟨rfl,rfl⟩)
section
variable {kt:KT}
theorem zm {w:World} {Y:Nat->Prop} {tb e:TypeId} {l:List UInt8} {vs:Array Value} {bl:List Nat}
  (h:ig (Own (bg kt) w Y) [.pin tb [.argp 0,.row e .u8 l]] vs.toList bl) :
  ∃ b u0 u1,vs = #[.pointer (some ⟨b,0,none⟩)]/\w.heap[b]? = some (.cells #[u0,u1] tb (0,0))/\(u0 = .pointer none\/u0 = .pointer (some ⟨b,0,none⟩))/\bc (bg kt) w Y e .u8 l u1/\u1.oneCell'=true/\bl=b::(blk u1).toList:=by
 obtain ⟨xs⟩:=vs;cases h with
 | cons h t =>
  cases t;have hb:pR (bg kt) w Y tb [.argp 0,.row e .u8 l] _ _:=F3 h;obtain ⟨b,us,bs,rfl,h2,h3,rfl⟩:=hb;obtain ⟨ys⟩:=us;cases h3 with
  | cons c1 t1 =>
   cases t1 with
   | cons c2 t2 =>
    cases t2;rcases c1 with ⟨c1,_⟩ | ⟨_,rfl,hv⟩
    ·cases c1 with
     | sh hr hs=>cases hs
    ·rcases c2 with ⟨c2,h1,_⟩ | ⟨hc,_⟩
     ·cases c2 with
      | sh hr hs=>cases hs
      | row hr=>exact ⟨b,_,_,rfl,h2,hv,hr,h1,by simp⟩
     ·cases hc
theorem Hd {w:World} {Y:Nat->Prop} {tb e:TypeId} {l:List UInt8} {b:Nat} {u0 u1:Value} (h2:w.heap[b]? = some (.cells #[u0,u1] tb (0,0))) (hv:u0 = .pointer none\/u0 = .pointer (some ⟨b,0,none⟩))
  (hr:bc (bg kt) w Y e .u8 l u1) (h1:u1.oneCell'=true):pR (bg kt) w Y tb [.argp 0,.row e .u8 l] (.pointer (some ⟨b,0,none⟩)) (b::(blk u1).toList):=by
 refine ⟨b,_,_,rfl,h2,?_,rfl⟩;have:ig (vK (bg kt) w Y b) [.argp 0,.row e .u8 l] [u0,u1] ([]++((blk u1).toList++[])) :=
  .cons (.inr ⟨rfl,rfl,hv⟩) (.cons (.inl ⟨.row hr,h1,rfl⟩) .nil)
 simpa using this
def Qz (tb e:TypeId):Spec Kd:={ params:=[.pin tb [.argp 0,.row e .u8]],ret := .tup [],pins:=[[.argp 0,.row e .u8]],pl:={ nt:=0 },ts:=[] }
def XC (x:Unit×List UInt8×Unit):Option (Unit×(Unit×List UInt8×Unit)):=some ((),x)
theorem OT {tb:TypeId} {f:FuncId} {fn:Func} (hf:P.funcs[f]? = some fn) (hb:fn.body.isSome=true) (iT:(fn.name == "runtime.NumGoroutine")=false) (e:TypeId)
  (WH:∀ (b:Nat) (w:World),w.cell? ⟨b,0,none⟩=some (.pointer none)->w.shape? b=some (tb,2)->w.frozen? ⟨b,0,none⟩=false ->
   Calls P f #[.pointer (some ⟨b,0,none⟩)] w fun e w'=>e = .returned (.tuple #[])/\w'=w.setCell ⟨b,0,none⟩ (.pointer (some ⟨b,0,none⟩)))
  (Ys:∀ (b:Nat) (w:World),w.cell? ⟨b,0,none⟩=some (.pointer (some ⟨b,0,none⟩))->Calls P f #[.pointer (some ⟨b,0,none⟩)] w fun e w'=>e = .returned (.tuple #[])/\w'=w) :
  Ctr (bg kt) P f (ai (bg kt) (Qz tb e) XC):=by
 refine mD fun x r hx w vs Y bl dD vO hY _ _ => ?_
 cases hx;obtain ⟨⟨⟩,l0,⟨⟩⟩:=x;obtain ⟨l,rfl⟩:∃ l:List UInt8,l=l0:=⟨l0,rfl⟩
 obtain ⟨b,u0,u1,rfl,h2,hv,hr,h1,rfl⟩:=zm dD;refine .inl ⟨fA hf hb iT,?_⟩;have fin:∀ w':World,w'.heap[b]? = some (.cells #[.pointer (some ⟨b,0,none⟩),u1] (tb) (0,0))->(∀ k,k≠b->w'.heap[k]? = w.heap[k]?)->w'.os=w.os->w'.tape=w.tape->w'.output=w.output->w'.heap.size=w.heap.size ->
   Comes (bg kt) (Qz (tb) e) [.pin (tb) [.argp 0,.row e .u8 l]] ((),(),l,()) w [.pointer (some ⟨b,0,none⟩)] Y (b::(blk u1).toList) (.returned (.tuple #[])) w':=by
  intro w' WI hk q1 q2 q3 q4;refine ⟨.tuple #[],[],b::(blk u1).toList,rfl,vO,fun k hk=>⟨by rw[q4]; exact (hY k hk).2,.inr hk⟩,⟨#[],rfl,.nil⟩,?_,⟨q1,q2,q3,by rw[q4]; exact Nat.le_refl _,fun k vM uw=>hk k fun e=>uw (by rw[e]; exact adn ..)⟩⟩;have iv:∀ k,Y k->k≠b:=fun k hk e=>(hY b (adn ..)).1 (e ▸ hk)
  have mZ:=hr.mono (w':=w') (X':=fun k=>(Y k\/w.heap.size<=k\/k∈b::(blk u1).toList)/\k ∉ []++b::(blk u1).toList) (fun k vM uw=>⟨⟨.inl vM,fun hm=>(hY k (by simpa using hm)).1 vM⟩,by rw[q4]; exact uw,hk k (iv k vM)⟩)
   (fun k vM=>hk k fun e=>by
    subst e;rw[vM] at vO;simp at vO)
  have:=iP.pin (t:=tb) (cs:=([DV.argp 0,DV.row e Kd.u8 l]:List (DV El))) (Hd WI (.inr rfl) mZ h1) .nil;rw[List.append_nil] at this;exact this
 have hs:w.shape? b=some (tb,2):=by simp[World.shape?,h2]
 have aH:=mr h2;rcases hv with rfl | rfl
 ·refine Calls.mono (WH b w (by rw[Lib.cell_of_heap h2]; rfl) hs (Lib.frozen_of_heap h2 0)) ?_
  rintro e' w' ⟨rfl,rfl⟩
  exact fin (w.setCell ⟨b,0,none⟩ (.pointer (some ⟨b,0,none⟩))) (by simp[World.setCell,Array.getElem?_modify,h2]) (fun k hk=>Below.heap_setCell _ _ _ _ hk) rfl rfl rfl (by simp[World.setCell])
 ·refine Calls.mono (Ys b w (by rw[Lib.cell_of_heap h2]; rfl)) ?_
  rintro e' w' ⟨rfl,rfl⟩
  exact fin _ h2 (fun _ _=>rfl) rfl rfl rfl rfl
def QY (tb e:TypeId):Spec Kd:={ params:=[.pin tb [.argp 0,.row e .u8]],ret := .one (.a .str),pins:=[[.argp 0,.junk]],pl:={ nt:=0 },ts:=[] }
def XR (x:Unit×List UInt8×Unit):Option (List UInt8×(Unit×Unit×Unit)):=some (x.2.1,((),(),()))
theorem NG {w:World} {X:Nat->Prop} {l:List UInt8} {xs:List Value} (h:Els (bg kt) w X .u8 l xs):∀ (j:Nat) (x:UInt8),l[j]? = some x->xs[j]? = some (.int .u8 x.toNat):=by
 intro j x hx;obtain ⟨hj,rfl⟩:=List.getElem?_eq_some_iff.1 hx;obtain ⟨u,h1,h2⟩:=h.rep j hj 0 (by show 0<1; omega);cases h2;have:j*(bg kt).sz .u8+0=j:=by show j*1+0=j; omega
 rw[this] at h1;exact h1
theorem Q4 (L:Lays.n169 P ρ) (X:Builder.Extra P ρ) {f:FuncId} {fn:Func} (hf:P.funcs[f]? = some fn) (hb:fn.body.isSome=true) (iT:(fn.name == "runtime.NumGoroutine")=false) (ef:ρ.f 169=f) :
  Ctr (bg kt) P f (ai (bg kt) (QY (ρ.t 72) (ρ.t 5)) XR):=by
 refine mD fun x r hx w vs Y bl dD vO hY _ _ => ?_
 cases hx;obtain ⟨⟨⟩,l0,⟨⟩⟩:=x;obtain ⟨l,rfl⟩:∃ l:List UInt8,l=l0:=⟨l0,rfl⟩
 obtain ⟨b,u0,u1,rfl,h2,hv,hr,h1,rfl⟩:=zm dD;refine .inl ⟨fA hf hb iT,?_⟩;have fin:∀ w':World,w'.heap[b]? = some (.cells #[u0,u1] (ρ.t 72) (0,0))->(∀ k,k<w.heap.size->k ∉ b::(blk u1).toList->w'.heap[k]? = w.heap[k]?)->w'.os=w.os->w'.tape=w.tape->w'.output=w.output->w.heap.size<=w'.heap.size ->
   Comes (bg kt) (QY (ρ.t 72) (ρ.t 5)) [.pin (ρ.t 72) [.argp 0,.row (ρ.t 5) .u8 l]] (l,((),(),())) w [.pointer (some ⟨b,0,none⟩)] Y (b::(blk u1).toList) (.returned (.string ⟨l.toArray⟩)) w':=by
  intro w' WI hk q1 q2 q3 q4;refine ⟨.string ⟨l.toArray⟩,[],[b],rfl,by simp,fun k hk => ?_,?_,?_,⟨q1,q2,q3,q4,fun k vM uw=>hk k vM uw⟩⟩
  ·simp only[List.nil_append,List.mem_singleton] at hk
   subst hk;exact ⟨Nat.lt_of_lt_of_le (hY k (adn ..)).2 q4,.inr (adn ..)⟩
  ·exact Ans.c (.sh (Rep.str l) rfl)
  ·refine iP.pin (t:=ρ.t 72) (cs:=([DV.argp 0,DV.row (ρ.t 5) Kd.u8 l]:List (DV El))) (b:=[b]) ⟨b,_,[],rfl,WI,?_,rfl⟩ .nil
   exact .cons (b:=[]) (.inr ⟨rfl,rfl,hv⟩) (.cons (b:=[]) (.inl ⟨.junk _,h1,rfl⟩) .nil)
 obtain ⟨xs,yk,K9⟩:=hr.els;have aH:=mr h2;rcases yk.2 with ⟨rfl,h0⟩ | ⟨g,cap,cur,rfl,_,hg,ER,Dt,uy,CJ⟩
 ·have:l=[]:=List.length_eq_zero_iff.1 h0
  subst this;refine Calls.mono (ef ▸ R9 L X b u0 none 0 0 none .empty w w.drew w.drew h2 rfl (by rw[Lib.cell_of_heap (show w.drew.heap[b]? = _ from h2)]; rfl) (Lib.run_unsafeString_none _ _ _ _ none)) ?_
  rintro e' w' ⟨rfl,rfl⟩
  exact fin _ h2 (fun _ _ _=>rfl) rfl rfl rfl (Nat.le_refl _)
 ·have hd:w.drew.heap[b]? = some (.cells #[u0,.slice (some ⟨g,0,none⟩) l.length cap] (ρ.t 72) (0,0)):=h2
  obtain ⟨fz,_,hg⟩:=hg;have Y0:w.drew.heap[g]? = some (.cells cur (ρ.t 5) fz):=hg;have hbg:b≠g:=by
   intro e;subst e;simp[blk] at vO
  have hcd:w.drew.cell? ⟨b,1,none⟩=some (.slice (some ⟨g,0,none⟩) l.length cap):=by rw[Lib.cell_of_heap hd]; rfl
  by_cases h0:l=[]
  ·subst h0
   by_cases ym:cap=0
   ·subst ym
    have hz:=Lib.run_unsafeSliceData_zero (P:=P) w.drew #[(ρ.t 37)] (ρ.t 127) (ρ.t 5) L.t127 ⟨g,0,none⟩ 0 (ρ.t 5,cur.size) (by simp[World.shape?,Y0]);have hb3:(w.drew.alloc (.view ⟨g,0,none⟩ (ρ.t 5))).heap[b]? = some (.cells #[u0,.slice (some ⟨g,0,none⟩) 0 0] (ρ.t 72) (0,0)):=by
     rw[Go.Vm.alloc_old _ _ b (by exact aH)]; exact hd
    refine Calls.mono (ef ▸ R9 L X b u0 (some ⟨g,0,none⟩) 0 0 _ .empty w _ _ h2 hz (by rw[Lib.cell_of_heap hb3]; rfl) (Lib.run_unsafeString_none _ _ _ _ _)) ?_
    rintro e' w' ⟨rfl,rfl⟩
    exact fin _ hb3 (fun k hk _=>Go.Vm.alloc_old w.drew _ k hk) rfl rfl rfl (by show w.heap.size<=(w.heap.push _).size; simp)
   ·refine Calls.mono (ef ▸ R9 L X b u0 (some ⟨g,0,none⟩) 0 cap _ .empty w w.drew w.drew h2 (Lib.run_unsafeSliceData_row _ _ _ _ _ _ ym) hcd (Lib.run_unsafeString_none _ _ _ _ _)) ?_
    rintro e' w' ⟨rfl,rfl⟩
    exact fin _ h2 (fun _ _ _=>rfl) rfl rfl rfl (Nat.le_refl _)
  ·have hlen:0<l.length:=List.length_pos_iff.2 h0
   have ER:l.length<=cap:=ER;have uA:=yk.cells (g:=g) rfl;have hus:=Lib.run_unsafeString_row (P:=P) w.drew (ρ.t 127) (ρ.t 3) (ρ.t 9) (ρ.t 5) L.t127 X.cellsByte g cur.size (by simp[World.shape?,Y0]) l h0
    (by have:(bg kt).sz .u8=1:=rfl; rw[this] at uy; omega) (by unfold maxLen at Dt; omega) (fun j x hx=>uA j _ (NG K9 j x hx))
   refine Calls.mono (ef ▸ R9 L X b u0 (some ⟨g,0,none⟩) l.length cap _ _ w w.drew _ h2 (Lib.run_unsafeSliceData_row _ _ _ _ _ _ (by omega)) hcd hus) ?_
   rintro e' w' ⟨rfl,rfl⟩
   have OG:∀ k,k≠g->(w.drew.freeze ⟨g,0,none⟩ l.length).heap[k]? = w.heap[k]? := by
    intro k hk;unfold World.freeze;rw[if_neg (by omega)];simp only[Array.getElem?_modify];rw[if_neg (by exact fun e=>hk e.symm)];rfl
   refine fin _ (by rw[OG b hbg]; exact h2) (fun k _ hk=>OG k fun e=>hk (by subst e; simp[blk])) ?_ ?_ ?_ ?_
   ·unfold World.freeze; rw[if_neg (by omega)]; rfl
   ·unfold World.freeze; rw[if_neg (by omega)]; rfl
   ·unfold World.freeze; rw[if_neg (by omega)]; rfl
   ·unfold World.freeze; rw[if_neg (by omega)]; show w.heap.size<=(w.heap.modify _ _).size; simp
end
end Go.Vm
namespace Go.Vm
open Go.Proofs Go.Shelf Go.RowKit
variable {P:Program} {ρ:Ren}
theorem Df (w:World) (l:List ByteArray) (t:TypeId) (j:Nat) (x:ByteArray) (h:l[j]? = some x) :
  (w.alloc (.cells (l.map Value.string).toArray t)).cell? ⟨w.heap.size,j,none⟩=some (.string x):=by
 rw[World.cell?_alloc_at _ _ _ _ rfl,List.getElem?_toArray,List.getElem?_map,h];rfl
theorem zJ (s:List UInt8) {n:Nat} (h:s.length<n):(⟨s.toArray⟩:ByteArray).size<n:=by
 show s.toArray.size<n;simpa using h
theorem ND (L:Lays.n146 P ρ) (Z6:(P.info? (ρ.t 9)).map (fun i=>(i.zero,i.size,i.bytes))=some (some (.string ByteArray.empty),1,16)) (s:ByteArray) (c:UInt8) (w:World) (hs:s.size<4294967281) :
  Calls P (ρ.f 146) #[.string s,.string ⟨#[c]⟩] w fun e w' =>
   e = .returned (.slice (some ⟨w.heap.size,0,none⟩) (Lib.countB s ⟨#[c]⟩+1) (Lib.countB s ⟨#[c]⟩+1))/\w'=w.alloc (.cells ((Lib.splitB ⟨#[c]⟩ 0 (Lib.countB s ⟨#[c]⟩) s).map Value.string).toArray (ρ.t 9)):=by
 have h1:1<=(⟨#[c]⟩:ByteArray).size:=Nat.le_refl 1;have hI:∀ (x:ByteArray) (cs:Array Value),x.size<=s.size->Calls P (ρ.f 143) #[.string x,.string ⟨#[c]⟩] (w.alloc (.cells cs (ρ.t 9))) fun e w'=>e = .returned (.int .i64 (Lib.indexB x ⟨#[c]⟩))/\w'=w.alloc (.cells cs (ρ.t 9)):=by
  intro x cs _;refine (Any.strings_Index_one { L with } x c _).mono fun e w' ⟨he,hw⟩=>⟨?_,hw⟩
  rw[he];show _=Ending.returned (Value.int .i64 (Lib.index x.data.toList [c]));rw[Lib.index_one]
 have hC:Calls P (ρ.f 138) #[.string s,.string ⟨#[c]⟩] w fun e w'=>e = .returned (.int .i64 (Lib.countB s ⟨#[c]⟩))/\w'=w:=by
  refine (Any.strings_Count_one { L with } s c w).mono fun e w' ⟨he,hw⟩=>⟨?_,hw⟩
  rw[he];show _=Ending.returned (Value.int .i64 ((Lib.count s.data.toList [c]:Nat):Int));rw[Lib.count_one];rfl
 have hle:=Lib.countB_le (⟨#[c]⟩:ByteArray) h1 s.size s (Nat.le_refl _);have hlen:=Lib.splitB_all (⟨#[c]⟩:ByteArray) h1 0 _ s rfl;have cc:=Any.strings_genSplit_core { L with } Z6 s ⟨#[c]⟩ 0 (-1) (Lib.countB s ⟨#[c]⟩+1) w hs h1 (Nat.zero_le _) hI hC (by decide) (by decide) (by rw[if_pos (by decide)]; omega)
 rw[Nat.add_sub_cancel,hlen] at cc;have e2:Lib.cellsOf (Lib.splitB ⟨#[c]⟩ 0 (Lib.countB s ⟨#[c]⟩) s) (Lib.countB s ⟨#[c]⟩+1)=((Lib.splitB ⟨#[c]⟩ 0 (Lib.countB s ⟨#[c]⟩) s).map Value.string).toArray:=by rw[<-hlen]; exact Lib.cellsOf_full _
 rw[e2] at cc;have t3:=L.t3; have t9:=L.t9; have t31:=L.t31;have a3:=L.a3; have a9:=L.a9; have a31:=L.a31;have z3:=L.z3; have v3:=L.v3; have z9:=L.z9; have v9:=L.v9; have z31:=L.z31; have v31:=L.v31;have e221:∀ args w,(callFunc (ρ.f 221) args).run P w = .ok (.enter (ρ.f 221) args) w:=enters_of L.f221 (by kernel_rfl) rfl
 go_enter L.f146,Body.n146_ntmps ρ
 go_wp2_with (go_at_fn (ρ.f 221); refine cc.mono ?_; rintro e w' ⟨rfl,hw⟩; rw[hw])
 go_ret
 exact ⟨rfl,rfl⟩
section
variable {kt:KT}
theorem Aj {w:World} {Y:Nat->Prop} {a b:DV El} {vs:Array Value} {bl:List Nat} (h:ig (Own (bg kt) w Y) [a,b] vs.toList bl) :
  ∃ u v b1 b2,vs = #[u,v]/\Own (bg kt) w Y a u b1/\Own (bg kt) w Y b v b2/\bl=b1++b2:=by
 obtain ⟨xs⟩:=vs;cases h with
 | cons h t =>
  cases t with
  | cons h' t' =>
   cases t';exact ⟨_,_,_,_,rfl,h,h',by simp⟩
theorem u4 {w:World} {Y:Nat->Prop} {l:List UInt8} {v:Value} {bl:List Nat} (h:Own (bg kt) w Y (.str l) v bl):v = .string ⟨l.toArray⟩/\bl=[]:=by
 cases h with
 | c h =>
  cases h with
  | sh hr hs =>
   cases hr;exact ⟨rfl,rfl⟩
theorem Gl {w:World} {Y:Nat->Prop} {k:IntKind} {i:Int} {v:Value} {bl:List Nat} (h:Own (bg kt) w Y (.int k i) v bl):v = .int k i/\bl=[]:=by
 cases h with
 | c h =>
  cases h with
  | sh hr hs =>
   cases hr;exact ⟨rfl,rfl⟩
theorem AN {w:World} {Y:Nat->Prop} (zs:List ByteArray) (t:TypeId) (cap:Nat) (yT:cap=zs.length) (hY:Y w.heap.size) :
  Rep (bg kt) (w.alloc (.cells (zs.map Value.string).toArray t)) Y (.slc .str (zs.map fun s=>s.data.toList)) (.slice (some ⟨w.heap.size,0,none⟩) zs.length cap):=by
 subst yT;have hlen:(zs.map fun s:ByteArray=>s.data.toList).length=zs.length:=by simp
 have:=Rep.slc (T:=bg kt) (w:=w.alloc (.cells (zs.map Value.string).toArray t)) (X:=Y) (k:=Kd.str) (l:=zs.map fun s=>s.data.toList) (b:=w.heap.size) (off:=0) zs.length (fun j => .string (zs.getD j ByteArray.empty)) (by rw[hlen]; exact Nat.le_refl _) (fun _=>⟨hY,by simp⟩)
  (fun j hj=>by
   rw[hlen] at hj;have sf:j<zs.length:=by have:(bg kt).sz .str=1:=rfl; rw[this] at hj; omega
   rw[Nat.zero_add];exact Df w zs t j _ (by simp[List.getD,adl sf]))
  (fun i hi c dh=>by
   have ym:c=0:=by have:c<1:=dh; omega
   subst ym;rw[hlen] at hi;have e:i*(bg kt).sz .str+0=i:=by show i*1+0=i; omega
   rw[e];have:(zs.map fun s:ByteArray=>s.data.toList)[i]'(by rw[hlen]; exact hi)=(zs.getD i ByteArray.empty).data.toList:=by
    simp[List.getD,adl hi]
   show Rep _ _ _ (.str ((zs.map fun s:ByteArray=>s.data.toList)[i]'(by rw[hlen]; exact hi))) _;rw[this];exact wq _)
  (fun i hi c dh=>by
   have ym:c=0:=by have:c<1:=dh; omega
   subst ym;rfl)
 rw[hlen] at this;exact this
def Qa:Spec Kd:={ params:=[.a .str,.a .str],ret := .one (.a (.slc .str)),pins:=[],pl:={ nt:=0 },ts:=[] }
def Cl (x:List UInt8×List UInt8):Option (List (List UInt8)):=if decide (x.1.length<4294967281)=true then if decide (x.2.length=1)=true then some (Lib.split x.1 x.2) else none else none
theorem NR (L:Lays.n146 P ρ) (Z6:(P.info? (ρ.t 9)).map (fun i=>(i.zero,i.size,i.bytes))=some (some (.string ByteArray.empty),1,16)) {f:FuncId} {fn:Func} (hf:P.funcs[f]? = some fn) (hb:fn.body.isSome=true) (iT:(fn.name == "runtime.NumGoroutine")=false) (ef:ρ.f 146=f) :
  Ctr (bg kt) P f (ai (bg kt) Qa Cl):=by
 refine mD fun x r hx w vs Y bl dD vO hY _ _ => ?_
 obtain ⟨s,p⟩:=x;unfold Cl at hx;split at hx
 ·rename_i h1
  split at hx
  ·rename_i h2
   cases hx;have h1:=of_decide_eq_true h1;have h2:=of_decide_eq_true h2;obtain ⟨c,rfl⟩:∃ c,p=[c]:=by
    match p,h2 with
    | [c],_=>exact ⟨c,rfl⟩
   obtain ⟨u,v,b1,b2,rfl,o1,o2,rfl⟩:=Aj dD;obtain ⟨rfl,rfl⟩:=u4 o1;obtain ⟨rfl,rfl⟩:=u4 o2;refine .inl ⟨fA hf hb iT,?_⟩;have hlen:=Lib.splitB_all (⟨#[c]⟩:ByteArray) (Nat.le_refl 1) 0 _ (⟨s.toArray⟩:ByteArray) rfl;refine Calls.mono (ef ▸ ND L Z6 ⟨s.toArray⟩ c w (zJ s h1)) ?_
   rintro e w' ⟨rfl,rfl⟩
   have T1:((Lib.splitB ⟨#[c]⟩ 0 (Lib.countB ⟨s.toArray⟩ ⟨#[c]⟩) ⟨s.toArray⟩).map fun z:ByteArray=>z.data.toList)=Lib.split s [c]:=Lib.splitB_data _ _ _ _;refine ⟨_,[],[],rfl,by simp,by simp,?_,.skip (by intro t cs; exact ⟨nofun,nofun⟩) (.skip (by intro t cs; exact ⟨nofun,nofun⟩) .nil),⟨rfl,rfl,rfl,by simp,fun k hk _=>Go.Vm.alloc_old w _ k hk⟩⟩;refine Ans.c (.sh ?_ rfl);rw[<-hlen];have:=AN (kt:=kt) (w:=w) (Y:=fun b=>(Y b\/w.heap.size<=b\/b∈([]:List Nat)++[])/\b ∉ ([]:List Nat)++[]) (Lib.splitB ⟨#[c]⟩ 0 (Lib.countB ⟨s.toArray⟩ ⟨#[c]⟩) ⟨s.toArray⟩) (ρ.t 9) _ rfl ⟨.inr (.inl (Nat.le_refl _)),by simp⟩;rw[T1] at this;exact this
  ·cases hx
 ·cases hx
def Uy:Spec Kd:={ params:=[.a .str,.a (.int .u8)],ret := .one (.a (.int .i64)),pins:=[],pl:={ nt:=0 },ts:=[] }
def Ud (x:List UInt8×Int):Option Int:=some (Lib.indexByte x.1 x.2.toNat.toUInt8)
theorem Qy (L:Lays.n217 P ρ) {f:FuncId} {fn:Func} (hf:P.funcs[f]? = some fn) (hb:fn.body.isSome=true) (iT:(fn.name == "runtime.NumGoroutine")=false) (ef:ρ.f 217=f) :
  Ctr (bg kt) P f (ai (bg kt) Uy Ud):=by
 refine mD fun x r hx w vs Y bl dD vO hY _ _ => ?_
 obtain ⟨s,c⟩:=x;cases hx;obtain ⟨u,v,b1,b2,rfl,o1,o2,rfl⟩:=Aj dD;obtain ⟨rfl,rfl⟩:=u4 o1;obtain ⟨rfl,rfl⟩:=Gl o2;refine .inl ⟨fA hf hb iT,?_⟩;refine Calls.mono (ef ▸ Any.stringslite_IndexByte L ⟨s.toArray⟩ c w) ?_
 rintro e w' ⟨rfl,rfl⟩
 exact ⟨_,[],[],rfl,by simp,by simp,Ans.c (.sh (L8 _ _ rfl) rfl),.skip (by intro t cs; exact ⟨nofun,nofun⟩) (.skip (by intro t cs; exact ⟨nofun,nofun⟩) .nil),⟨rfl,rfl,rfl,Nat.le_refl _,fun _ _ _=>rfl⟩⟩
end
end Go.Vm
