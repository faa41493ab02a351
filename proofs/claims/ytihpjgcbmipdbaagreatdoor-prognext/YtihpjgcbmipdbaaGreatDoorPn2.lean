import Derived.Test.YtihpjgcbmipdbaaGreatDoorFlaw24
import Derived.Test.YtihpjgcbmipdbaaGreatDoorPh8
import Derived.Test.YtihpjgcbmipdbaaGreatDoorPj2
import Derived.Test.YtihpjgcbmipdbaaGreatDoorPh6
import Derived.Test.YtihpjgcbmipdbaaGreatDoorPn1
import Derived.Test.YtihpjgcbmipdbaaGreatDoorFlaw23
/- Letters, digits, plain bytes, methods and keys: plain. No condition. -/
namespace Go.Vm
open Go Go.Proofs
set_option linter.unusedVariables false
end Go.Vm
/- Reading and writing the parts of a path: plain. No condition. -/
namespace Go.Vm
open Go Go.Proofs
set_option linter.unusedVariables false
end Go.Vm
/- Paths: plain. No condition. -/
namespace Go.Vm
open Go Go.Proofs
set_option linter.unusedVariables false
/-! ### cut at each stroke -/
def Few (n:Nat) (l:List B8):Prop:=l.length≤n ∧ ∀ q∈l,q.length≤1000
theorem Few.take {n:Nat} {l:List B8} (h:Few n l) (k:Nat):Few n (l.take k):=⟨by have:=h.1; simp; omega,fun q hq=>h.2 q (List.mem_of_mem_take hq)⟩
theorem Few.add {n:Nat} {l:List B8} (h:Few n l) {q:B8} (hq:q.length≤1000):Few (n+1) (l ++ [q]):=⟨by have:=h.1; simp; omega,fun x hx=>by
 rcases List.mem_append.1 hx with hx | hx
 ·exact h.2 x hx
 ·simp at hx; subst hx; exact hq⟩
theorem Few.mono {n m:Nat} {l:List B8} (h:Few n l) (hm:n≤m):Few m l:=⟨Nat.le_trans h.1 hm,h.2⟩
end Go.Vm
/- Tables: patterns, what fits, rules, their lines: plainly. No condition. -/
namespace Go.Vm
open Go.Lib (decDigits itoa decodeL)
set_option linter.unusedVariables false
set_option linter.unusedSimpArgs false
/-! ### paths and patterns -/
abbrev RlT:=By×By×List PhT×Unit
def EH (s:By):Prop := ∀ b∈s,b≠10∧b≠32∧b≠58
theorem EH.app {a b:By} (ha:EH a) (hb:EH b):EH (a ++ b):=fun x hx=>(List.mem_append.1 hx).elim (ha x) (hb x)
end Go.Vm
/- Tables: the program's functions are the plain ones. No condition but on lengths. -/
namespace Go.Vm
open Go.Proofs
set_option linter.unusedVariables false
set_option linter.unusedSimpArgs false
/-! ### parts, forms, patterns -/
end Go.Vm
/- Tables: what the program prints, parses and finds is the plain one. No condition but on lengths. -/
namespace Go.Vm
open Go.Proofs
set_option linter.unusedVariables false
set_option linter.unusedSimpArgs false
def MH (r:RlT):Prop:=r.1.length≤1000∧r.2.1.length≤1000∧r.2.2.1.length≤100000 ∧ ∀ p∈r.2.2.1,qW p
end Go.Vm
/- Tables: the document's functions are the plain ones. No condition but on lengths. -/
namespace Go.Vm
open Go.Proofs
set_option linter.unusedVariables false
set_option linter.unusedSimpArgs false
/-! ### parts -/
end Go.Vm
/- Tables: what the document prints, parses and finds is the plain one; small tables. No condition but on lengths. -/
namespace Go.Vm
open Go.Proofs
set_option linter.unusedVariables false
set_option linter.unusedSimpArgs false
def Mz (r:RlT):Prop:=r.1.length≤900∧r.2.1.length≤900∧r.2.2.1.length≤100000 ∧ ∀ p∈r.2.2.1,qW p
theorem Mz.r {r:RlT} (h:Mz r):MH r:=⟨by have:=h.1; omega,by have:=h.2.1; omega,h.2.2.1,h.2.2.2⟩
theorem Fm {p:PhT} (h:ee p=true):qW p:=by
 rcases pk h with ⟨n,rfl,_,_⟩ | ⟨nm,n,rfl,h,_,_⟩ | ⟨nm,t,rfl,h,ht⟩ | ⟨n,t,rfl,_,ht⟩
 ·exact ⟨Nat.zero_le _,Nat.zero_le _⟩
 ·exact ⟨by have:=Is h; simp only; omega,Nat.zero_le _⟩
 ·exact ⟨by have:=Is h; simp only; omega,by have:=yF ht; simp only; omega⟩
 ·exact ⟨Nat.zero_le _,by have:=yF ht; simp only; omega⟩
end Go.Vm
/- Tables: plain paths, the standard table, finding, small tables; the wake. No condition but on lengths. -/
namespace Go.Vm
open Go.Proofs
open Go.Lib (decDigits itoa)
set_option linter.unusedVariables false
set_option linter.unusedSimpArgs false
/-! ### plain paths -/
abbrev GS:By := [37,123,115,117,109,125]
theorem dd2 {i:Nat} (h1 : ¬ i<10) (h2:i<100):decDigits i = [UInt8.ofNat (48+i / 10),UInt8.ofNat (48+i % 10)]:=Go.Lib.decDigits_two h1 h2
theorem dd3 {i:Nat} (h1 : ¬ i<100) (h2:i<1000):decDigits i = [UInt8.ofNat (48+i / 10 / 10),UInt8.ofNat (48+i / 10 % 10),UInt8.ofNat (48+i % 10)]:=by
 rw [decDigits,dif_neg (by omega),dd2 (by omega) (by omega)]
 rfl
theorem Ik:itoa 201 = [50,48,49]:=by unfold itoa; rw [if_neg (by decide)]; exact dd3 (by decide) (by decide)
end Go.Vm
/- Tables: the laws of fits, of any text, and of tables there and back. No condition but on lengths. -/
namespace Go.Vm
open Go.Proofs
set_option linter.unusedVariables false
set_option linter.unusedSimpArgs false
/-! ### small tables -/
def nj (p:List PhT):Bool:=decide (p.length≤10) && p.all fun x=>decide (x.2.1.length≤100) && decide (x.2.2.2.1.length≤100)
theorem rU (l:List PhT) (hl:l.length≤1000000) : ∀ (n i:Nat),i+n=l.length→af cF (l,(l.length:Int),(i:Int),()) (if (l.drop i).all (fun x=>decide (x.2.1.length≤100) && decide (x.2.2.2.1.length≤100))=true then .inl () else .inr (false,()))
 | 0,i,h=>by
  refine af.fin (.of fun F => ?_)
  unfold cF
  rw [if_neg (by rw [decide_eq_true_eq]; simp only; omega),List.drop_eq_nil_of_le (by omega)]
  rfl
 | n+1,i,h=>by
  have hi:i<l.length:=by omega
  have hx:idx l (i:Int)=some l[i]:=bn _ _ _ (List.getElem?_eq_getElem hi)
  have hw:IntKind.i64.wrap ((i:Int)+1)=((i+1:Nat):Int):=by rw [wrap64 _ (by omega) (by omega)]; omega
  have ih:=rU l hl n (i+1) (by omega)
  rw [List.drop_eq_getElem_cons hi,List.all_cons]
  generalize l[i]=x at *
  have hbody : ∀ F,cF F (l,(l.length:Int),(i:Int),())=some (if (decide (x.2.1.length≤100) && decide (x.2.2.2.1.length≤100))=true then .inl (l,(l.length:Int),((i+1:Nat):Int),()) else .inr (.inr (false,()))):=by
   intro F
   unfold cF
   rw [if_pos (by rw [decide_eq_true_eq]; simp only; omega)]
   have e1 : ∀ a:By,(100:Int)<(a.length:Int) ↔ ¬ a.length≤100:=fun a=>by omega
   simp only [hx,Option.bind_some,e1]
   by_cases a1:x.2.1.length≤100
   ·by_cases a2:x.2.2.2.1.length≤100 <;> simp [a1,a2,hw]
   ·simp [a1]
  cases hc:(decide (x.2.1.length≤100) && decide (x.2.2.2.1.length≤100)) with
  | true =>
   rw [Bool.true_and]
   exact af.step (.of fun F=>(hbody F).trans (by rw [hc,if_pos rfl])) ih
  | false =>
   rw [Bool.false_and]
   exact af.fin (.of fun F=>(hbody F).trans (by rw [hc]; rfl))
theorem Fq (l:List PhT):ae (fun F=>eH F l) (nj l):=by
 unfold eH nj
 by_cases h10:l.length≤10
 ·rw [decide_eq_true h10,Bool.true_and]
  refine ae.neg (by rw [decide_eq_true_eq]; omega) ?_
  have h:=rU l (by omega) l.length 0 (by omega)
  rw [List.drop_zero] at h
  refine ae.bind h.run ?_
  cases hb:l.all (fun x=>decide (x.2.1.length≤100) && decide (x.2.2.2.1.length≤100)) <;> exact .ret _
 ·rw [decide_eq_false h10,Bool.false_and]
  exact ae.pos (by rw [decide_eq_true_eq]; omega) (.ret _)
end Go.Vm
/- Programs: the wake, and the laws of programs there and back, of any text, of what is next. No condition but on lengths. -/
namespace Go.Vm
open Go.Proofs
open Go.Lib (itoa decDigits)
set_option linter.unusedVariables false
set_option linter.unusedSimpArgs false
/-! ### the same -/
abbrev awS:By := [110,101,101,100,32,115,117,109,32,49,48,48,59,32,99,97,108,108,32,100,101,98,105,116,32,37,123,115,117,109,125,59,32,101,110,100,32,50,48,49,32,112,97,105,100]
def awP:List PhT := [(2,[115,117,109],100,[],()),(3,[100,101,98,105,116],0,GS,()),(4,[],201,[112,97,105,100],())]
abbrev awE:EnT:=(0,[107],0,3,2,1,[],0,0,0,[],[],[],wkB,())
theorem Hi:itoa 100 = [49,48,48]:=by unfold itoa; rw [if_neg (by decide)]; exact dd3 (by decide) (by decide)
theorem A1:qQ awP=awS:=by
 have h1:eU (2,[115,117,109],100,[],())=qz ++ 32 :: ([115,117,109] ++ 32 :: itoa 100):=rfl
 have h4:eU (4,[],201,[112,97,105,100],())=AW ++ 32 :: (itoa 201 ++ nY [112,97,105,100]):=rfl
 unfold qQ awP
 simp only [List.map_cons,List.map_nil,h1,h4,Hi,Ik]
 decide
theorem Dd:oz awP=true:=by kernel_rfl
theorem KR:lG GS=some [(true,[37,123,115,117,109,125],())]:=by kernel_rfl
theorem JF:oY GS awE = [53]:=by
 unfold oY
 rw [if_neg (by decide),KR]
 have hm:lB awE [37,123,115,117,109,125]=vY wkB [115,117,109]:=rfl
 simp only [mU,hm,Lz]
 show Bg ((bX [53]).map (·.1)) [] = _
 rw [tJ _ (by decide)]
 kernel_rfl
theorem Jo:yH awP awE=((3,0,[],0,[107],3,1,2,[100,101,98,105,116],[53],()),0):=by
 unfold yH
 rw [Dd,if_neg (by decide),if_neg (by decide)]
 show ((doT (3,[100,101,98,105,116],0,GS,()) awE,0):DoT×Int) = _
 unfold doT
 rw [if_neg (by decide),if_neg (by decide),if_pos rfl]
 show (((3,0,[],0,[107],3,1,2,[100,101,98,105,116],oY GS awE,()),0):DoT×Int) = _
 rw [JF]
theorem Lg : ∀ x∈awP,qW x:=by
 intro x hx
 exact Fm ((ym Dd).1 x hx)
theorem Fv:ae (fun F=>eG F ()) true:=by
 have h1:=IE awS (by decide)
 rw [← A1,Ao awP Dd,A1] at h1
 have h2:=Hs awP awE (by decide) Lg ⟨by decide,by decide,by decide,by decide⟩
 rw [Jo] at h2
 unfold eG
 refine ae.bind h1 (ae.bind h2 (.of fun F => ?_))
 rfl
/-! ### programs there and back -/
theorem AV {l:List PhT} (h:nj l=true):l.length≤10 ∧ ∀ x∈l,qW x:=by
 unfold nj at h
 rw [Bool.and_eq_true,decide_eq_true_eq] at h
 refine ⟨h.1,fun p hp => ?_⟩
 have:=List.all_eq_true.1 h.2 p hp
 simp only [Bool.and_eq_true,decide_eq_true_eq] at this
 exact ⟨by omega,by omega⟩
theorem Il (e:EnT):ae (fun F=>dF F ([(0,e)],1)) (jK e):=by
 have h:=J0 [(0,e)] 1 (by simp)
 simpa using h
theorem Cq (p:List PhT) (e:EnT) (pt:Int):ae (fun F=>dL F (p,e,pt)) true:=by
 unfold dL
 refine ae.bind Fv (ae.neg (by decide) ?_)
 refine ae.bind (r:=((p,pt,(), !(nj p && jK e),e,()):List PhT×Int×Unit×Bool×EnT×Unit)) ?_ ?_
 ·refine ae.bind (Fq p) ?_
  cases nj p with
  | true=>exact ae.pos rfl (ae.bind (Il e) (.ret _))
  | false=>exact ae.neg (by decide) (.ret _)
 cases hs:(nj p && jK e) with
 | false=>exact ae.pos rfl (.ret _)
 | true =>
  rw [Bool.and_eq_true] at hs
  obtain ⟨hl,hb⟩:=AV hs.1
  have he:=GD e hs.2
  refine ae.neg (by simp) ?_
  refine ae.bind (Hs p e (by omega) hb he) (ae.bind (JO p e (by omega) hb he) ?_)
  refine ae.bind (r:=((p,pt,true,()):List PhT×Int×Bool×Unit)) (.of fun F=>by simp) ?_
  exact ae.bind (r:=((true,()):Bool×Unit)) (ae.pos rfl (ae.bind (I5 p pt (by omega)) (ae.bind (H8 p pt (by omega)) (.of fun F=>by simp)))) (.ret _)
theorem pure_conciergelaw23_ProgNext (p:List PhT) (e:EnT) (pt:Int) : ∃ F,dL F (p,e,pt)=some true:=(Cq p e pt).ex
end Go.Vm
