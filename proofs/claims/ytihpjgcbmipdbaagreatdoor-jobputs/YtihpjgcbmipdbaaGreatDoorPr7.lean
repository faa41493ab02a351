import Derived.Test.YtihpjgcbmipdbaaGreatDoorPg4
import Derived.Test.YtihpjgcbmipdbaaGreatDoorPk3
import Derived.Test.YtihpjgcbmipdbaaGreatDoorFlaw24
import Derived.Test.YtihpjgcbmipdbaaGreatDoorPm4
/- Tables: patterns, what fits, rules, their lines: plainly. No condition. -/
namespace Go.Vm
open Go.Lib (decDigits itoa decodeL)
set_option linter.unusedVariables false
set_option linter.unusedSimpArgs false
/-! ### paths and patterns -/
abbrev RlT:=By×By×List PhT×Unit
def D5 (s:By):Prop := ∀ b∈s,b≠10∧b≠32∧b≠58
theorem D5.app {a b:By} (ha:D5 a) (hb:D5 b):D5 (a ++ b):=fun x hx=>(List.mem_append.1 hx).elim (ha x) (hb x)
end Go.Vm
/- Tables: the program's functions are the plain ones. No condition but on lengths. -/
namespace Go.Vm
open Go.Proofs
set_option linter.unusedVariables false
set_option linter.unusedSimpArgs false
/-! ### parts, forms, patterns -/
end Go.Vm
/- Tables: what the program prints, parses and finds is the plain one. No condition but on lengths. -/
namespace Go.Vm
open Go.Proofs
set_option linter.unusedVariables false
set_option linter.unusedSimpArgs false
def Mz (r:RlT):Prop:=r.1.length≤1000∧r.2.1.length≤1000∧r.2.2.1.length≤100000 ∧ ∀ p∈r.2.2.1,wA p
end Go.Vm
/- Tables: the document's functions are the plain ones. No condition but on lengths. -/
namespace Go.Vm
open Go.Proofs
set_option linter.unusedVariables false
set_option linter.unusedSimpArgs false
/-! ### parts -/
end Go.Vm
/- Tables: what the document prints, parses and finds is the plain one; small tables. No condition but on lengths. -/
namespace Go.Vm
open Go.Proofs
set_option linter.unusedVariables false
set_option linter.unusedSimpArgs false
def Mb (r:RlT):Prop:=r.1.length≤900∧r.2.1.length≤900∧r.2.2.1.length≤100000 ∧ ∀ p∈r.2.2.1,wA p
theorem Mb.r {r:RlT} (h:Mb r):Mz r:=⟨by have:=h.1; omega,by have:=h.2.1; omega,h.2.2.1,h.2.2.2⟩
theorem EU {p:PhT} (h:ic p=true):wA p:=by
 rcases Ba h with ⟨n,rfl,_,_⟩ | ⟨nm,n,rfl,h,_,_⟩ | ⟨nm,t,rfl,h,ht⟩ | ⟨n,t,rfl,_,ht⟩
 ·exact ⟨Nat.zero_le _,Nat.zero_le _⟩
 ·exact ⟨by have:=G1 h; simp only; omega,Nat.zero_le _⟩
 ·exact ⟨by have:=G1 h; simp only; omega,by have:=xD ht; simp only; omega⟩
 ·exact ⟨Nat.zero_le _,by have:=xD ht; simp only; omega⟩
end Go.Vm
/- Tables: plain paths, the standard table, finding, small tables; the wake. No condition but on lengths. -/
namespace Go.Vm
open Go.Proofs
open Go.Lib (decDigits itoa)
set_option linter.unusedVariables false
set_option linter.unusedSimpArgs false
/-! ### plain paths -/
end Go.Vm
/- Tables: the laws of fits, of any text, and of tables there and back. No condition but on lengths. -/
namespace Go.Vm
open Go.Proofs
set_option linter.unusedVariables false
set_option linter.unusedSimpArgs false
/-! ### small tables -/
def l7 (p:List PhT):Bool:=decide (p.length≤10) && p.all fun x=>decide (x.2.1.length≤100) && decide (x.2.2.2.1.length≤100)
theorem qH (l:List PhT) (hl:l.length≤1000000) : ∀ (n i:Nat),i+n=l.length→ag bQ (l,(l.length:Int),(i:Int),()) (if (l.drop i).all (fun x=>decide (x.2.1.length≤100) && decide (x.2.2.2.1.length≤100))=true then .inl () else .inr (false,()))
 | 0,i,h=>by
  refine ag.fin (.of fun F => ?_)
  unfold bQ
  rw [if_neg (by rw [decide_eq_true_eq]; simp only; omega),List.drop_eq_nil_of_le (by omega)]
  rfl
 | n+1,i,h=>by
  have hi:i<l.length:=by omega
  have hx:idx l (i:Int)=some l[i]:=eE _ _ _ (List.getElem?_eq_getElem hi)
  have hw:IntKind.i64.wrap ((i:Int)+1)=((i+1:Nat):Int):=by rw [wrap64 _ (by omega) (by omega)]; omega
  have ih:=qH l hl n (i+1) (by omega)
  rw [List.drop_eq_getElem_cons hi,List.all_cons]
  generalize l[i]=x at *
  have hbody : ∀ F,bQ F (l,(l.length:Int),(i:Int),())=some (if (decide (x.2.1.length≤100) && decide (x.2.2.2.1.length≤100))=true then .inl (l,(l.length:Int),((i+1:Nat):Int),()) else .inr (.inr (false,()))):=by
   intro F
   unfold bQ
   rw [if_pos (by rw [decide_eq_true_eq]; simp only; omega)]
   have e1 : ∀ a:By,(100:Int)<(a.length:Int) ↔ ¬ a.length≤100:=fun a=>by omega
   simp only [hx,Option.bind_some,e1]
   by_cases a1:x.2.1.length≤100
   ·by_cases a2:x.2.2.2.1.length≤100 <;> simp [a1,a2,hw]
   ·simp [a1]
  cases hc:(decide (x.2.1.length≤100) && decide (x.2.2.2.1.length≤100)) with
  | true =>
   rw [Bool.true_and]
   exact ag.step (.of fun F=>(hbody F).trans (by rw [hc,if_pos rfl])) ih
  | false =>
   rw [Bool.false_and]
   exact ag.fin (.of fun F=>(hbody F).trans (by rw [hc]; rfl))
theorem Ed (l:List PhT):ae (fun F=>dG F l) (l7 l):=by
 unfold dG l7
 by_cases h10:l.length≤10
 ·rw [decide_eq_true h10,Bool.true_and]
  refine ae.neg (by rw [decide_eq_true_eq]; omega) ?_
  have h:=qH l (by omega) l.length 0 (by omega)
  rw [List.drop_zero] at h
  refine ae.bind h.run ?_
  cases hb:l.all (fun x=>decide (x.2.1.length≤100) && decide (x.2.2.2.1.length≤100)) <;> exact .ret _
 ·rw [decide_eq_false h10,Bool.false_and]
  exact ae.pos (by rw [decide_eq_true_eq]; omega) (.ret _)
end Go.Vm
