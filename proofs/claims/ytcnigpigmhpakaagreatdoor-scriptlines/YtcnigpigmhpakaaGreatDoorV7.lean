import Derived.Test.YtcnigpigmhpakaaGreatDoorV4
import Derived.Test.YtcnigpigmhpakaaGreatDoorV3
import Derived.Shelf.Strings.Builder1
import Derived.Laws.World
import Derived.Laws.NewBlocks
import Derived.Shelf.Strings.Split
import Derived.Lib.IndexBytes
import Derived.Shelf.Strconv.AtoiErr
import Derived.Shelf.Strconv.Atoi
import Derived.Shelf.Strconv.AppendIntPublic10
/- Part 5 of an abstract value machine: a framework of this session's own, in which functions of the program are run once and for all inputs. No condition. -/
/- The abstract value machine: strings.Builder's own pointer, and its text: two contracts by hand. -/
namespace Go.Vm
open Go.Proofs Go.Shelf Go.RowKit
set_option linter.unusedVariables false
variable {P:Program} {ρ:Ren}
set_option maxHeartbeats 1000000 in
set_option maxRecDepth 100000 in
theorem H5 (L:Lays.n169 P ρ) (X:Builder.Extra P ρ) (b:Nat) (p:Value) (a:Option Addr) (n c:Nat) (q:Option Addr) (s:ByteArray) (w w1 w2:World)
  (hbk:w.heap[b]? = some (.cells #[p, .slice a n c] (ρ.t 72) (0,0)))
  (hSD:(Builtin.unsafeSliceData_ #[(ρ.t 37)] (ρ.t 127) #[.slice a n c]).run P w.drew = .ok (.pointer q) w1)
  (c2:w1.cell? ⟨b,1,none⟩=some (.slice a n c))
  (hUS:(Builtin.unsafeString_ #[(ρ.t 127),(ρ.t 3)] (ρ.t 9) #[.pointer q, .int .i64 n]).run P w1 = .ok (.string s) w2) :
  Calls P (ρ.f 169) #[.pointer (some ⟨b,0,none⟩)] w fun e w'=>e = .returned (.string s)∧w'=w2:=by
 have c1:w.drew.cell? ⟨b,1,none⟩=some (.slice a n c):=by
  have:w.drew.heap[b]? = some (.cells #[p, .slice a n c] (ρ.t 72) (0,0)):=hbk
  rw [Lib.cell_of_heap this]; rfl
 have m0:=L.mixed
 have x1:=L.t72; have x2:=L.a72; have x3:=L.z72; have x4:=L.v72; have x5:=run_underlying L.t72
 have y1:=L.t70; have y2:=L.a70; have y3:=L.z70; have y4:=L.v70; have y5:=run_underlying L.t70
 have k1:=L.t37; have k2:=L.a37; have k3:=L.z37; have k4:=L.v37; have k5:=run_underlying L.t37
 have l1:=L.t127; have l2:=L.a127; have l3:=L.z127; have l4:=L.v127; have l5:=run_underlying L.t127
 have n1:=L.t3; have n2:=L.a3; have n3:=L.z3; have n4:=L.v3; have n5:=run_underlying L.t3
 have o1:=L.t9; have o2:=L.a9; have o3:=L.z9; have o4:=L.v9; have o5:=run_underlying L.t9
 go_enter L.f169,Body.n169_ntmps ρ
 go_wp2
 go_region_o
 all_goals (go_wp2; go_ret; exact ⟨rfl,rfl⟩)
section
variable {kt:KT}
theorem sY {w:World} {Y:Nat→Prop} {tb e:TypeId} {l:List UInt8} {vs:Array Value} {bl:List Nat}
  (h:eZ (Own (aX kt) w Y) [.pin tb [.argp 0, .row e .u8 l]] vs.toList bl) :
  ∃ b u0 u1,vs = #[.pointer (some ⟨b,0,none⟩)]∧w.heap[b]? = some (.cells #[u0,u1] tb (0,0))∧(u0 = .pointer none∨u0 = .pointer (some ⟨b,0,none⟩))∧aP (aX kt) w Y e .u8 l u1∧u1.oneCell'=true∧bl=b :: (blk u1).toList:=by
 obtain ⟨xs⟩:=vs
 cases h with
 | cons h t =>
  cases t
  have hb:mh (aX kt) w Y tb [.argp 0, .row e .u8 l] _ _:=xY h
  obtain ⟨b,us,bs,rfl,h2,h3,rfl⟩:=hb
  obtain ⟨ys⟩:=us
  cases h3 with
  | cons c1 t1 =>
   cases t1 with
   | cons c2 t2 =>
    cases t2
    rcases c1 with ⟨c1,_⟩ | ⟨_,rfl,hv⟩
    ·cases c1 with
     | sh hr hs=>cases hs
    ·rcases c2 with ⟨c2,h1,_⟩ | ⟨hc,_⟩
     ·cases c2 with
      | sh hr hs=>cases hs
      | row hr=>exact ⟨b,_,_,rfl,h2,hv,hr,h1,by simp⟩
     ·cases hc
theorem AZ {w:World} {Y:Nat→Prop} {tb e:TypeId} {l:List UInt8} {b:Nat} {u0 u1:Value} (h2:w.heap[b]? = some (.cells #[u0,u1] tb (0,0))) (hv:u0 = .pointer none∨u0 = .pointer (some ⟨b,0,none⟩))
  (hr:aP (aX kt) w Y e .u8 l u1) (h1:u1.oneCell'=true):mh (aX kt) w Y tb [.argp 0, .row e .u8 l] (.pointer (some ⟨b,0,none⟩)) (b :: (blk u1).toList):=by
 refine ⟨b,_,_,rfl,h2,?_,rfl⟩
 have:eZ (pY (aX kt) w Y b) [.argp 0, .row e .u8 l] [u0,u1] ([] ++ ((blk u1).toList ++ [])) :=
  .cons (.inr ⟨rfl,rfl,hv⟩) (.cons (.inl ⟨.row hr,h1,rfl⟩) .nil)
 simpa using this
def G8 (tb e:TypeId):Spec Kd:={ params := [.pin tb [.argp 0, .row e .u8]],ret := .tup [],pins := [[.argp 0, .row e .u8]],pl:={ nt:=0 },ts := [] }
def KI (x:Unit×List UInt8×Unit):Option (Unit×(Unit×List UInt8×Unit)):=some ((),x)
theorem G4 {tb:TypeId} {f:FuncId} {fn:Func} (hf:P.funcs[f]? = some fn) (hb:fn.body.isSome=true) (hname:(fn.name == "runtime.NumGoroutine")=false) (e:TypeId)
  (hfresh : ∀ (b:Nat) (w:World),w.cell? ⟨b,0,none⟩=some (.pointer none)→w.shape? b=some (tb,2)→w.frozen? ⟨b,0,none⟩=false →
   Calls P f #[.pointer (some ⟨b,0,none⟩)] w fun e w'=>e = .returned (.tuple #[])∧w'=w.setCell ⟨b,0,none⟩ (.pointer (some ⟨b,0,none⟩)))
  (hused : ∀ (b:Nat) (w:World),w.cell? ⟨b,0,none⟩=some (.pointer (some ⟨b,0,none⟩))→Calls P f #[.pointer (some ⟨b,0,none⟩)] w fun e w'=>e = .returned (.tuple #[])∧w'=w) :
  Ctr (aX kt) P f (ak (aX kt) (G8 tb e) KI):=by
 refine js fun x r hx w vs Y bl hown hnd hY _ _ => ?_
 cases hx
 obtain ⟨⟨⟩,l0,⟨⟩⟩:=x
 obtain ⟨l,rfl⟩ : ∃ l:List UInt8,l=l0:=⟨l0,rfl⟩
 obtain ⟨b,u0,u1,rfl,h2,hv,hr,h1,rfl⟩:=sY hown
 refine .inl ⟨dz hf hb hname,?_⟩
 have fin : ∀ w':World,w'.heap[b]? = some (.cells #[.pointer (some ⟨b,0,none⟩),u1] (tb) (0,0))→(∀ k,k≠b→w'.heap[k]? = w.heap[k]?)→w'.os=w.os→w'.tape=w.tape→w'.output=w.output→w'.heap.size=w.heap.size →
   Comes (aX kt) (G8 (tb) e) [.pin (tb) [.argp 0, .row e .u8 l]] ((),(),l,()) w [.pointer (some ⟨b,0,none⟩)] Y (b :: (blk u1).toList) (.returned (.tuple #[])) w':=by
  intro w' hw' hk q1 q2 q3 q4
  refine ⟨.tuple #[],[],b :: (blk u1).toList,rfl,hnd,fun k hk=>⟨by rw [q4]; exact (hY k hk).2, .inr hk⟩,⟨#[],rfl, .nil⟩,?_,⟨q1,q2,q3,by rw [q4]; exact Nat.le_refl _,fun k hk1 hk2=>hk k fun e=>hk2 (by rw [e]; exact List.mem_cons_self ..)⟩⟩
  have hne : ∀ k,Y k→k≠b:=fun k hk e=>(hY b (List.mem_cons_self ..)).1 (e ▸ hk)
  have hrow:=hr.mono (w':=w') (X':=fun k=>(Y k∨w.heap.size≤k∨k∈b :: (blk u1).toList)∧k ∉ [] ++ b :: (blk u1).toList) (fun k hk1 hk2=>⟨⟨.inl hk1,fun hm=>(hY k (by simpa using hm)).1 hk1⟩,by rw [q4]; exact hk2,hk k (hne k hk1)⟩)
   (fun k hk1=>hk k fun e=>by
    subst e
    rw [hk1] at hnd
    simp at hnd)
  have:=fW.pin (t:=tb) (cs:=([DV.argp 0,DV.row e Kd.u8 l]:List (DV El))) (AZ hw' (.inr rfl) hrow h1) .nil
  rw [List.append_nil] at this
  exact this
 have hs:w.shape? b=some (tb,2):=by simp [World.shape?,h2]
 have hlt:=kP h2
 rcases hv with rfl | rfl
 ·refine Calls.mono (hfresh b w (by rw [Lib.cell_of_heap h2]; rfl) hs (Lib.frozen_of_heap h2 0)) ?_
  rintro e' w' ⟨rfl,rfl⟩
  exact fin (w.setCell ⟨b,0,none⟩ (.pointer (some ⟨b,0,none⟩))) (by simp [World.setCell,Array.getElem?_modify,h2]) (fun k hk=>Below.heap_setCell _ _ _ _ hk) rfl rfl rfl (by simp [World.setCell])
 ·refine Calls.mono (hused b w (by rw [Lib.cell_of_heap h2]; rfl)) ?_
  rintro e' w' ⟨rfl,rfl⟩
  exact fin _ h2 (fun _ _=>rfl) rfl rfl rfl rfl
def GB (tb e:TypeId):Spec Kd:={ params := [.pin tb [.argp 0, .row e .u8]],ret := .one (.a .str),pins := [[.argp 0, .junk]],pl:={ nt:=0 },ts := [] }
def Kk (x:Unit×List UInt8×Unit):Option (List UInt8×(Unit×Unit×Unit)):=some (x.2.1,((),(),()))
theorem Ej {w:World} {X:Nat→Prop} {l:List UInt8} {xs:List Value} (h:Els (aX kt) w X .u8 l xs) : ∀ (j:Nat) (x:UInt8),l[j]? = some x→xs[j]? = some (.int .u8 x.toNat):=by
 intro j x hx
 obtain ⟨hj,rfl⟩:=List.getElem?_eq_some_iff.1 hx
 obtain ⟨u,h1,h2⟩:=h.rep j hj 0 (by show 0<1; omega)
 cases h2
 have:j * (aX kt).sz .u8+0=j:=by show j * 1+0=j; omega
 rw [this] at h1
 exact h1
theorem Hi (L:Lays.n169 P ρ) (X:Builder.Extra P ρ) {f:FuncId} {fn:Func} (hf:P.funcs[f]? = some fn) (hb:fn.body.isSome=true) (hname:(fn.name == "runtime.NumGoroutine")=false) (ef:ρ.f 169=f) :
  Ctr (aX kt) P f (ak (aX kt) (GB (ρ.t 72) (ρ.t 5)) Kk):=by
 refine js fun x r hx w vs Y bl hown hnd hY _ _ => ?_
 cases hx
 obtain ⟨⟨⟩,l0,⟨⟩⟩:=x
 obtain ⟨l,rfl⟩ : ∃ l:List UInt8,l=l0:=⟨l0,rfl⟩
 obtain ⟨b,u0,u1,rfl,h2,hv,hr,h1,rfl⟩:=sY hown
 refine .inl ⟨dz hf hb hname,?_⟩
 have fin : ∀ w':World,w'.heap[b]? = some (.cells #[u0,u1] (ρ.t 72) (0,0))→(∀ k,k<w.heap.size→k ∉ b :: (blk u1).toList→w'.heap[k]? = w.heap[k]?)→w'.os=w.os→w'.tape=w.tape→w'.output=w.output→w.heap.size≤w'.heap.size →
   Comes (aX kt) (GB (ρ.t 72) (ρ.t 5)) [.pin (ρ.t 72) [.argp 0, .row (ρ.t 5) .u8 l]] (l,((),(),())) w [.pointer (some ⟨b,0,none⟩)] Y (b :: (blk u1).toList) (.returned (.string ⟨l.toArray⟩)) w':=by
  intro w' hw' hk q1 q2 q3 q4
  refine ⟨.string ⟨l.toArray⟩,[],[b],rfl,by simp,fun k hk => ?_,?_,?_,⟨q1,q2,q3,q4,fun k hk1 hk2=>hk k hk1 hk2⟩⟩
  ·simp only [List.nil_append,List.mem_singleton] at hk
   subst hk
   exact ⟨Nat.lt_of_lt_of_le (hY k (List.mem_cons_self ..)).2 q4, .inr (List.mem_cons_self ..)⟩
  ·exact Ans.c (.sh (Rep.str l) rfl)
  ·refine fW.pin (t:=ρ.t 72) (cs:=([DV.argp 0,DV.row (ρ.t 5) Kd.u8 l]:List (DV El))) (b := [b]) ⟨b,_,[],rfl,hw',?_,rfl⟩ .nil
   exact .cons (b := []) (.inr ⟨rfl,rfl,hv⟩) (.cons (b := []) (.inl ⟨.junk _,h1,rfl⟩) .nil)
 obtain ⟨xs,hx1,hx2⟩:=hr.els
 have hlt:=kP h2
 rcases hx1.2 with ⟨rfl,h0⟩ | ⟨g,cap,cur,rfl,_,hg,hnc,hcm,hcs,htake⟩
 ·have:l = []:=List.length_eq_zero_iff.1 h0
  subst this
  refine Calls.mono (ef ▸ H5 L X b u0 none 0 0 none .empty w w.drew w.drew h2 rfl (by rw [Lib.cell_of_heap (show w.drew.heap[b]? = _ from h2)]; rfl) (Lib.run_unsafeString_none _ _ _ _ none)) ?_
  rintro e' w' ⟨rfl,rfl⟩
  exact fin _ h2 (fun _ _ _=>rfl) rfl rfl rfl (Nat.le_refl _)
 ·have hd:w.drew.heap[b]? = some (.cells #[u0, .slice (some ⟨g,0,none⟩) l.length cap] (ρ.t 72) (0,0)):=h2
  obtain ⟨fz,_,hg⟩:=hg
  have hdg:w.drew.heap[g]? = some (.cells cur (ρ.t 5) fz):=hg
  have hbg:b≠g:=by
   intro e
   subst e
   simp [blk] at hnd
  have hcd:w.drew.cell? ⟨b,1,none⟩=some (.slice (some ⟨g,0,none⟩) l.length cap):=by rw [Lib.cell_of_heap hd]; rfl
  by_cases h0:l = []
  ·subst h0
   by_cases hc0:cap=0
   ·subst hc0
    have hz:=Lib.run_unsafeSliceData_zero (P:=P) w.drew #[(ρ.t 37)] (ρ.t 127) (ρ.t 5) L.t127 ⟨g,0,none⟩ 0 (ρ.t 5,cur.size) (by simp [World.shape?,hdg])
    have hb3:(w.drew.alloc (.view ⟨g,0,none⟩ (ρ.t 5))).heap[b]? = some (.cells #[u0, .slice (some ⟨g,0,none⟩) 0 0] (ρ.t 72) (0,0)):=by
     rw [Go.Vm.alloc_old _ _ b (by exact hlt)]; exact hd
    refine Calls.mono (ef ▸ H5 L X b u0 (some ⟨g,0,none⟩) 0 0 _ .empty w _ _ h2 hz (by rw [Lib.cell_of_heap hb3]; rfl) (Lib.run_unsafeString_none _ _ _ _ _)) ?_
    rintro e' w' ⟨rfl,rfl⟩
    exact fin _ hb3 (fun k hk _=>Go.Vm.alloc_old w.drew _ k hk) rfl rfl rfl (by show w.heap.size≤(w.heap.push _).size; simp)
   ·refine Calls.mono (ef ▸ H5 L X b u0 (some ⟨g,0,none⟩) 0 cap _ .empty w w.drew w.drew h2 (Lib.run_unsafeSliceData_row _ _ _ _ _ _ hc0) hcd (Lib.run_unsafeString_none _ _ _ _ _)) ?_
    rintro e' w' ⟨rfl,rfl⟩
    exact fin _ h2 (fun _ _ _=>rfl) rfl rfl rfl (Nat.le_refl _)
  ·have hlen:0<l.length:=List.length_pos_iff.2 h0
   have hnc:l.length≤cap:=hnc
   have hcells:=hx1.cells (g:=g) rfl
   have hus:=Lib.run_unsafeString_row (P:=P) w.drew (ρ.t 127) (ρ.t 3) (ρ.t 9) (ρ.t 5) L.t127 X.cellsByte g cur.size (by simp [World.shape?,hdg]) l h0
    (by have:(aX kt).sz .u8=1:=rfl; rw [this] at hcs; omega) (by unfold maxLen at hcm; omega) (fun j x hx=>hcells j _ (Ej hx2 j x hx))
   refine Calls.mono (ef ▸ H5 L X b u0 (some ⟨g,0,none⟩) l.length cap _ _ w w.drew _ h2 (Lib.run_unsafeSliceData_row _ _ _ _ _ _ (by omega)) hcd hus) ?_
   rintro e' w' ⟨rfl,rfl⟩
   have hfr : ∀ k,k≠g→(w.drew.freeze ⟨g,0,none⟩ l.length).heap[k]? = w.heap[k]? := by
    intro k hk
    unfold World.freeze
    rw [if_neg (by omega)]
    simp only [Array.getElem?_modify]
    rw [if_neg (by exact fun e=>hk e.symm)]
    rfl
   refine fin _ (by rw [hfr b hbg]; exact h2) (fun k _ hk=>hfr k fun e=>hk (by subst e; simp [blk])) ?_ ?_ ?_ ?_
   ·unfold World.freeze; rw [if_neg (by omega)]; rfl
   ·unfold World.freeze; rw [if_neg (by omega)]; rfl
   ·unfold World.freeze; rw [if_neg (by omega)]; rfl
   ·unfold World.freeze; rw [if_neg (by omega)]; show w.heap.size≤(w.heap.modify _ _).size; simp
end
end Go.Vm
/- Part 6 of an abstract value machine: a framework of this session's own, in which functions of the program are run once and for all inputs. No condition. -/
/- The abstract value machine: functions of Go's library strings, by the shelf's contracts. -/
namespace Go.Vm
open Go.Proofs Go.Shelf Go.RowKit
set_option linter.unusedVariables false
variable {P:Program} {ρ:Ren}
section
variable {kt:KT}
theorem tY {w:World} {Y:Nat→Prop} {a b:DV El} {vs:Array Value} {bl:List Nat} (h:eZ (Own (aX kt) w Y) [a,b] vs.toList bl) :
  ∃ u v b1 b2,vs = #[u,v]∧Own (aX kt) w Y a u b1∧Own (aX kt) w Y b v b2∧bl=b1 ++ b2:=by
 obtain ⟨xs⟩:=vs
 cases h with
 | cons h t =>
  cases t with
  | cons h' t' =>
   cases t'
   exact ⟨_,_,_,_,rfl,h,h',by simp⟩
theorem pB {w:World} {Y:Nat→Prop} {l:List UInt8} {v:Value} {bl:List Nat} (h:Own (aX kt) w Y (.str l) v bl):v = .string ⟨l.toArray⟩∧bl = []:=by
 cases h with
 | c h =>
  cases h with
  | sh hr hs =>
   cases hr
   exact ⟨rfl,rfl⟩
theorem CP {w:World} {Y:Nat→Prop} {k:IntKind} {i:Int} {v:Value} {bl:List Nat} (h:Own (aX kt) w Y (.int k i) v bl):v = .int k i∧bl = []:=by
 cases h with
 | c h =>
  cases h with
  | sh hr hs =>
   cases hr
   exact ⟨rfl,rfl⟩
def I0:Spec Kd:={ params := [.a .str, .a (.int .u8)],ret := .one (.a (.int .i64)),pins := [],pl:={ nt:=0 },ts := [] }
def IY (x:List UInt8×Int):Option Int:=some (Lib.indexByte x.1 x.2.toNat.toUInt8)
theorem Hn (L:Lays.n217 P ρ) {f:FuncId} {fn:Func} (hf:P.funcs[f]? = some fn) (hb:fn.body.isSome=true) (hname:(fn.name == "runtime.NumGoroutine")=false) (ef:ρ.f 217=f) :
  Ctr (aX kt) P f (ak (aX kt) I0 IY):=by
 refine js fun x r hx w vs Y bl hown hnd hY _ _ => ?_
 obtain ⟨s,c⟩:=x
 cases hx
 obtain ⟨u,v,b1,b2,rfl,o1,o2,rfl⟩:=tY hown
 obtain ⟨rfl,rfl⟩:=pB o1
 obtain ⟨rfl,rfl⟩:=CP o2
 refine .inl ⟨dz hf hb hname,?_⟩
 refine Calls.mono (ef ▸ Any.stringslite_IndexByte L ⟨s.toArray⟩ c w) ?_
 rintro e w' ⟨rfl,rfl⟩
 exact ⟨_,[],[],rfl,by simp,by simp,Ans.c (.sh (yG _ _ rfl) rfl), .skip (by intro t cs; exact ⟨nofun,nofun⟩) (.skip (by intro t cs; exact ⟨nofun,nofun⟩) .nil),⟨rfl,rfl,rfl,Nat.le_refl _,fun _ _ _=>rfl⟩⟩
end
end Go.Vm
/- Part 7 of an abstract value machine: a framework of this session's own, in which functions of the program are run once and for all inputs. No condition. -/
/- The abstract value machine: strconv's Atoi and AppendInt. -/
namespace Go.Vm
open Go.Proofs Go.Shelf Go.RowKit Go.Sort Go.Lib
set_option linter.unusedVariables false
section
variable {P:Program} {ρ:Ren} {w:World}
structure Bq (e:TypeId) (w w':World) (v v':Value) (n:Nat) (xs:List Value):Prop where
 own:iz w' e 1 v' n xs
 grown:w.grownBy w' v.ownBlock
 place:Place w v v'
theorem Fp {e:TypeId} {v:Value} {n k:Nat} {xs:List Value} (h:iz w e k v n xs):v.ownBlock=blk v:=by
 rcases h.2 with ⟨rfl,_⟩ | ⟨g,cap,cur,rfl,_⟩ <;> rfl
theorem Bq.trans {e:TypeId} {w0 w1 w2:World} {v0 v1 v2:Value} {n1 n2:Nat} {xs ys:List Value} (h:Bq e w0 w1 v0 v1 n1 xs) (k:Bq e w1 w2 v1 v2 n2 ys) (h0:v0.ownBlock=blk v0):Bq e w0 w2 v0 v2 n2 ys:=by
 refine ⟨k.own,⟨k.grown.os.trans h.grown.os,k.grown.tape.trans h.grown.tape,k.grown.output.trans h.grown.output,Nat.le_trans h.grown.size k.grown.size,fun b hb hne => ?_⟩,fun b hb => ?_⟩
 ·have h1:=h.grown.block b hb hne
  rw [← h1]
  refine k.grown.block b (Nat.lt_of_lt_of_le hb h.grown.size) fun hh => ?_
  rw [Fp h.own] at hh
  rcases h.place b hh.symm with hp | hp
  ·omega
  ·exact hne (by rw [h0,hp])
 ·rcases k.place b hb with hp | hp
  ·exact .inl (Nat.le_trans h.grown.size hp)
  ·exact h.place b hp
theorem Bq.behind {e:TypeId} {w0 w1 w2:World} {v v':Value} {n:Nat} {xs:List Value} (hb:Below w0.heap.size w0 w1) (k:Bq e w1 w2 v v' n xs):Bq e w0 w2 v v' n xs :=
 ⟨k.own,⟨k.grown.os.trans hb.os,k.grown.tape.trans hb.tape,k.grown.output.trans hb.output,Nat.le_trans hb.size k.grown.size,fun b h hne=>(k.grown.block b (Nat.lt_of_lt_of_le h hb.size) hne).trans (hb.block b h)⟩,
  fun b hk=>(k.place b hk).imp (fun h=>Nat.le_trans hb.size h) id⟩
end
section
variable {P:Program} {ρ:Ren} {kt:KT}
def CE:Spec Kd:={ params := [.a .str],ret := .tup [.a (.int .i64), .a (.any .er)],pins := [],pl:={ nt:=0 },ts := [] }
def Dr (x:List UInt8):Option (Int×Bool):=if decide (x.length≤18)=true then some (match Lib.atoi x with | some n=>(n,false) | none=>(0,true)) else none
theorem y8 {l:List UInt8} {n:Nat} (h:l.length≤n):(⟨l.toArray⟩:ByteArray).size≤n:=by show l.toArray.size≤n; rw [List.size_toArray]; exact h
theorem zy {w:World} {Y:Nat→Prop} {a:DV El} {vs:Array Value} {bl:List Nat} (h:eZ (Own (aX kt) w Y) [a] vs.toList bl) :
  ∃ u,vs = #[u]∧Own (aX kt) w Y a u bl:=by
 obtain ⟨xs⟩:=vs
 cases h with
 | cons h t =>
  cases t
  exact ⟨_,rfl,by simpa using h⟩
theorem G6 (L:LaysC.n172 P ρ) (hgl : ∀ w,kt.gl w → ∃ te pe,w.cell? ⟨ρ.g 15,0,none⟩=some (.iface te pe)) (her:kt.j.er=ρ.t 168) {f:FuncId} {fn:Func} (hf:P.funcs[f]? = some fn) (hb:fn.body.isSome=true) (hname:(fn.name == "runtime.NumGoroutine")=false) (ef:ρ.f 172=f) :
  Ctr (aX kt) P f (ak (aX kt) CE Dr):=by
 refine js fun x r hx w vs Y bl hown hnd hY hg hgb => ?_
 unfold Dr at hx
 split at hx
 case isFalse=>cases hx
 rename_i h1
 have h1:=of_decide_eq_true h1
 cases hx
 obtain ⟨u,rfl,o1⟩:=zy hown
 obtain ⟨rfl,rfl⟩:=pB o1
 refine .inl ⟨dz hf hb hname,?_⟩
 have hsz:(⟨x.toArray⟩:ByteArray).size≤18:=y8 h1
 have fin : ∀ (n:Int) (b:Bool) (v:Value) (w':World),Rep (aX kt) w' (fun b=>(Y b∨w.heap.size≤b∨b∈([]:List Nat))∧b ∉ ([]:List Nat) ++ []) (.any .er b) v→Below w.heap.size w w'→Comes (aX kt) CE (iv (aX kt) CE.params x) (n,b) w [.string ⟨x.toArray⟩] Y [] (.returned (.tuple #[.int .i64 n,v])) w':=by
  intro n b v w' hr hw
  refine ⟨_,[],[],rfl,by simp,by simp,⟨#[.int .i64 n,v],rfl,?_⟩, .skip (by intro t cs; exact ⟨nofun,nofun⟩) .nil,⟨hw.os,hw.tape,hw.output,hw.size,fun k hk _=>hw.block k hk⟩⟩
  exact .cons (b := []) (.c (.sh (yG _ _ rfl) rfl)) (.cons (b := []) (.c (.sh hr rfl)) .nil)
 cases ha:Lib.atoi x with
 | some n =>
  refine Calls.mono (ef ▸ Any.strconv_Atoi { L with } ⟨x.toArray⟩ n hsz (by simpa using ha) w) ?_
  rintro e w' ⟨rfl,t,rfl⟩
  exact fin n false .nilIface _ (.any .nili) (Lib.bytesWorld_below _ _ _)
 | none =>
  obtain ⟨te,pe,hc⟩:=hgl w hg
  refine Calls.mono (ef ▸ Any.strconv_Atoi_err L ⟨x.toArray⟩ hsz (by simpa using ha) _ w hc (.inr ⟨te,pe,rfl⟩)) ?_
  rintro e w' ⟨N,rfl,h2,h3,h4⟩
  refine fin 0 true _ _ (.any ?_) h4
  show Rep (aX kt) _ _ (.ifc kt.j.er .junk) _
  rw [her]
  exact .ifc _ (.junk _)
end
end Go.Vm
