import Derived.Test.YtihpjgcbmipdbaaGreatDoorFlaw24
import Derived.Test.YtihpjgcbmipdbaaGreatDoorPh8
set_option linter.unusedVariables false
set_option linter.unusedSimpArgs false
namespace Go.Vm
open Go.Lib (decDigits itoa decodeL)
abbrev RlT:=By×By×List PhT×Unit
def LN (s:By):Prop:=∀ b∈s,b≠10/\b≠32/\b≠58
theorem LN.app {a b:By} (ha:LN a) (hb:LN b):LN (a++b):=fun x hx=>(List.mem_append.1 hx).elim (ha x) (hb x)
end Go.Vm
namespace Go.Vm
open Go.Proofs
end Go.Vm
namespace Go.Vm
open Go.Proofs
def Ze (r:RlT):Prop:=r.1.length<=1000/\r.2.1.length<=1000/\r.2.2.1.length<=100000 /\ ∀ p∈r.2.2.1,wj p
end Go.Vm
namespace Go.Vm
open Go.Proofs
end Go.Vm
namespace Go.Vm
open Go.Proofs
def XU (r:RlT):Prop:=r.1.length<=900/\r.2.1.length<=900/\r.2.2.1.length<=100000 /\ ∀ p∈r.2.2.1,wj p
theorem XU.r {r:RlT} (h:XU r):Ze r:=⟨by have:=h.1; omega,by have:=h.2.1; omega,h.2.2.1,h.2.2.2⟩
theorem Na {p:PhT} (h:gO p=true):wj p:=by
 rcases Ik h with ⟨n,rfl,_,_⟩ | ⟨nm,n,rfl,h,_,_⟩ | ⟨nm,t,rfl,h,ht⟩ | ⟨n,t,rfl,_,ht⟩
 ·exact ⟨Nat.zero_le _,Nat.zero_le _⟩
 ·exact ⟨by have:=Pk h; simp only; omega,Nat.zero_le _⟩
 ·exact ⟨by have:=Pk h; simp only; omega,by have:=D4 ht; simp only; omega⟩
 ·exact ⟨Nat.zero_le _,by have:=D4 ht; simp only; omega⟩
end Go.Vm
namespace Go.Vm
open Go.Proofs
open Go.Lib (decDigits itoa)
end Go.Vm
namespace Go.Vm
open Go.Proofs
def qT (p:List PhT):Bool:=decide (p.length<=10)&&p.all fun x=>decide (x.2.1.length<=100)&&decide (x.2.2.2.1.length<=100)
theorem w8 (l:List PhT) (hl:l.length<=1000000):∀ (n i:Nat),i+n=l.length->ag du (l,(l.length:Int),(i:Int),()) (if (l.drop i).all (fun x=>decide (x.2.1.length<=100)&&decide (x.2.2.2.1.length<=100))=true then .inl () else .inr (false,()))
 | 0,i,h=>by
  refine ag.fin (.of fun F => ?_);unfold du;rw[if_neg (by rw[ac9]; simp only; omega),List.drop_eq_nil_of_le (by omega)];rfl
 | n+1,i,h=>by
  have hi:i<l.length:=by omega
  have hx:idx l (i:Int)=some l[i]:=bU _ _ _ (adl hi);have hw:IntKind.i64.wrap ((i:Int)+1)=((i+1:Nat):Int):=by rw[wrap64 _ (by omega) (by omega)]; omega
  have ih:=w8 l hl n (i+1) (by omega);rw[ado hi,List.all_cons];generalize l[i]=x at *
  have cO:∀ F,du F (l,(l.length:Int),(i:Int),())=some (if (decide (x.2.1.length<=100)&&decide (x.2.2.2.1.length<=100))=true then .inl (l,(l.length:Int),((i+1:Nat):Int),()) else .inr (.inr (false,()))):=by
   intro F;unfold du;rw[if_pos (by rw[ac9]; simp only; omega)];have e1:∀ a:By,(100:Int)<(a.length:Int) ↔ ¬ a.length<=100:=fun a=>by omega
   simp only[hx,ada,e1];by_cases a1:x.2.1.length<=100
   ·by_cases a2:x.2.2.2.1.length<=100 <;> simp[a1,a2,hw]
   ·simp[a1]
  cases hc:(decide (x.2.1.length<=100)&&decide (x.2.2.2.1.length<=100)) with
  | true =>
   rw[Bool.true_and];exact ag.step (.of fun F=>(cO F).trans (by rw[hc,if_pos rfl])) ih
  | false =>
   rw[Bool.false_and];exact ag.fin (.of fun F=>(cO F).trans (by rw[hc]; rfl))
theorem Mt (l:List PhT):ae (fun F=>fV F l) (qT l):=by
 unfold fV qT;by_cases T2:l.length<=10
 ·rw[adg T2,Bool.true_and]
  refine ae.neg (by rw[ac9]; omega) ?_;have h:=w8 l (by omega) l.length 0 (by omega);rw[List.drop_zero] at h;refine ae.bind h.run ?_;cases hb:l.all (fun x=>decide (x.2.1.length<=100)&&decide (x.2.2.2.1.length<=100)) <;> exact .ret _
 ·rw[adh T2,Bool.false_and]
  exact ae.pos (by rw[ac9]; omega) (.ret _)
end Go.Vm
