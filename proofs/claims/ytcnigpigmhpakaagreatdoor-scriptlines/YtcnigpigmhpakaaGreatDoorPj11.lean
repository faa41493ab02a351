/- JSON: the program's forms are the plain ones. No condition but on lengths. -/
import Derived.Test.YtcnigpigmhpakaaGreatDoorPj10
namespace Go.Vm
open Go.Lib (decodeL itoa)
set_option linter.unusedVariables false
set_option linter.unusedSimpArgs false
theorem HC : ∀ c:Fin 32,idx ([48,49,50,51,52,53,54,55,56,57,97,98,99,100,101,102]:B8) (shr .i32 ((c.val:Nat):Int) 4)=some (oF (c.val / 16))∧idx ([48,49,50,51,52,53,54,55,56,57,97,98,99,100,101,102]:B8) (mZ .i32 ((c.val:Nat):Int) 15)=some (oF (c.val % 16)):=by decide +kernel
theorem Et : ∀ c:Fin 32,c.val≠8→c.val≠9→c.val≠10→c.val≠12→c.val≠13→fS (cj c.val) = [92,117,48,48,oF (c.val / 16),oF (c.val % 16)]:=by decide +kernel
theorem HF (b:UInt8):UInt8.ofNat ((b.toNat:Nat):Int).toNat=b:=by simp
theorem Bl (c:Nat) (h:okR c) (h32 : ¬ c<32) (h34:c≠34) (h92:c≠92):fS (cj c)=cj c:=by
 by_cases h1:c<128
 ·rw [qV c h1]
  have e4:(UInt8.ofNat c).toNat=c:=by simp; omega
  have ne : ∀ k:UInt8,k.toNat≠c→UInt8.ofNat c≠k:=by
   intro k hk hh
   rw [← hh,e4] at hk
   exact hk rfl
  have e3:cj c = [UInt8.ofNat c]:=by unfold cj; rw [if_pos h1]
  unfold kT
  have n8:(8:UInt8).toNat=8:=rfl
  have n9:(9:UInt8).toNat=9:=rfl
  have n10:(10:UInt8).toNat=10:=rfl
  have n12:(12:UInt8).toNat=12:=rfl
  have n13:(13:UInt8).toNat=13:=rfl
  have n34:(34:UInt8).toNat=34:=rfl
  have n92:(92:UInt8).toNat=92:=rfl
  rw [if_neg (fun hh=>hh.elim (ne 34 (by omega)) (ne 92 (by omega))),if_neg (ne 8 (by omega)),if_neg (ne 9 (by omega)),if_neg (ne 10 (by omega)),if_neg (ne 12 (by omega)),if_neg (ne 13 (by omega)),if_neg (by omega),e3]
 ·exact r8 c h1 h.1
theorem Cr (F:Nat) (T out:By) (i c:Nat) (hc:okR c) (hi:i<T.length) (hra:eY T i=(c:Int)) (ho:out.length≤1000000) :
  fV F ((),(),(T,i),out,())=some (.inl ((),(),(T,i+runeLen T i),out ++ fS (cj c),())):=by
 unfold fV
 have L2 : ∀ a b:UInt8,decide ((out.length + [a,b].length) * 1≤140737488355328)=true:=by intro a b; simp; omega
 have L4 : ∀ a b c d:UInt8,decide ((out.length + [a,b,c,d].length) * 1≤140737488355328)=true:=by intro a b c d; simp; omega
 have L6 : ∀ a b c d e f:UInt8,decide (((out ++ [a,b,c,d]).length + [e,f].length) * 1≤140737488355328)=true:=by intro a b c d e f; simp; omega
 simp only [hi,decide_true,if_true,hra]
 by_cases k34:c=34
 ·subst k34
  have:((34:Nat):Int)=34:=rfl
  simp only [this,decide_true,Bool.true_eq_false,if_false,Option.bind_some,if_true,L2]
  rfl
 have i34 : ¬ (c:Int)=34:=by omega
 by_cases k92:c=92
 ·subst k92
  have:((92:Nat):Int)=92:=rfl
  have : ¬ ((92:Nat):Int)=34:=by decide
  simp only [this,decide_false,if_true,Option.bind_some]
  have:((92:Nat):Int)=92:=rfl
  simp only [this,decide_true,if_true,L2]
  rfl
 have i92 : ¬ (c:Int)=92:=by omega
 simp only [i34,i92,decide_false,if_true,Option.bind_some,Bool.false_eq_true,if_false]
 by_cases k8:c=8
 ·subst k8
  have:((8:Nat):Int)=8:=rfl
  simp only [this,decide_true,if_true]
  exact (if_pos (L2 92 98)).trans rfl
 have i8 : ¬ (c:Int)=8:=by omega
 simp only [i8,decide_false,Bool.false_eq_true,if_false]
 by_cases k12:c=12
 ·subst k12
  have:((12:Nat):Int)=12:=rfl
  simp only [this,decide_true,if_true]
  exact (if_pos (L2 92 102)).trans rfl
 have i12 : ¬ (c:Int)=12:=by omega
 simp only [i12,decide_false,Bool.false_eq_true,if_false]
 by_cases k10:c=10
 ·subst k10
  have:((10:Nat):Int)=10:=rfl
  simp only [this,decide_true,if_true]
  exact (if_pos (L2 92 110)).trans rfl
 have i10 : ¬ (c:Int)=10:=by omega
 simp only [i10,decide_false,Bool.false_eq_true,if_false]
 by_cases k13:c=13
 ·subst k13
  have:((13:Nat):Int)=13:=rfl
  simp only [this,decide_true,if_true]
  exact (if_pos (L2 92 114)).trans rfl
 have i13 : ¬ (c:Int)=13:=by omega
 simp only [i13,decide_false,Bool.false_eq_true,if_false]
 by_cases k9:c=9
 ·subst k9
  have:((9:Nat):Int)=9:=rfl
  simp only [this,decide_true,if_true]
  exact (if_pos (L2 92 116)).trans rfl
 have i9 : ¬ (c:Int)=9:=by omega
 simp only [i9,decide_false,Bool.false_eq_true,if_false]
 by_cases k32:c<32
 ·have i32:(c:Int)<32:=by omega
  obtain ⟨h1,h2⟩:=HC ⟨c,k32⟩
  have h3:=Et ⟨c,k32⟩ k8 k9 k10 k12 k13
  simp only at h1 h2 h3
  simp only [i32,decide_true,if_true,h1,h2,Option.bind_some,HF,h3]
  refine (if_pos (L4 92 117 48 48)).trans ((if_pos (L6 92 117 48 48 _ _)).trans ?_)
  rw [List.append_assoc]
  rfl
 have i32 : ¬ (c:Int)<32:=by omega
 simp only [i32,decide_false,Bool.false_eq_true,if_false,append_eq F c hc out (by omega),Option.bind_some,lI c hc,Bl c hc k32 k34 k92]
theorem Cu (T:By) : ∀ (t:By),OkT t → ∀ (i:Nat) (out:By),T.drop i=t→i≤T.length→out.length+(fS t).length≤1000000→af fV ((),(),(T,i),out,()) ((),out ++ fS t,()):=by
 intro t ht
 induction ht with
 | nil =>
  intro i out hd hi ho
  refine af.fin (.of fun F => ?_)
  have : ¬ i<T.length:=by
   have:=congrArg List.length hd
   simp at this
   omega
  unfold fV
  simp only [this,decide_false,Bool.false_eq_true,if_false]
  have e:fS [] = []:=rfl
  rw [e,List.append_nil]
 | cons c t hc _ ih =>
  intro i out hd hi ho
  have hp:=zN c
  have hlt:i<T.length:=by
   have:=congrArg List.length hd
   rw [List.length_drop,List.length_append] at this
   omega
  have hdec:=qZ c hc t
  have hra:eY T i=(c:Int):=by rw [xU,hd,hdec]
  have hrl:runeLen T i=(cj c).length:=by rw [qq,hd,hdec]
  rw [ov, ← List.append_assoc]
  rw [ov,List.length_append] at ho
  refine af.step (.of fun F=>Cr F T out i c hc hlt hra (by omega)) ?_
  rw [hrl]
  refine ih (i+(cj c).length) (out ++ fS (cj c)) ?_ ?_ (by rw [List.length_append]; omega)
  ·rw [← List.drop_drop,hd,List.drop_left' rfl]
  ·have:=congrArg List.length hd
   rw [List.length_drop,List.length_append] at this
   omega
theorem Ii (b t:By) (ht:OkT t) (hb:b.length+(quo t).length≤1000000):ae (fun F=>kH F (b,t)) (b ++ quo t):=by
 unfold quo at hb
 simp only [List.length_cons,List.length_append,List.length_nil] at hb
 unfold kH
 refine ae.pos (by simp; omega) ?_
 refine ae.bind (Cu t t ht 0 (b ++ [UInt8.ofNat 34]) rfl (by omega) (by simp; omega)).run ?_
 refine ae.pos (by simp; omega) ?_
 refine (ae.ret _).eq ?_
 unfold quo
 simp
/-! ### values -/
def C8 {α:Type} (f:α→By) (l:List α):By:=l.flatMap fun x=>44 :: f x
theorem join_cons {α:Type} (f:α→By) (x:α) : ∀ l:List α,bV ((x :: l).map f)=f x ++ C8 f l
 | []=>by simp [bV,C8]
 | y :: l=>by
  have:=join_cons f y l
  simp only [List.map_cons,bV,C8,List.flatMap_cons,List.cons_append] at this ⊢
  rw [this]
def ky {α:Type} (f:α→By) (i:Nat) (l:List α):By:=if i=0 then bV (l.map f) else C8 f l
theorem uE {α:Type} (f:α→By) (i:Nat) (x:α) (l:List α):ky f i (x :: l)=(if i=0 then [] else [44]) ++ (f x ++ ky f (i+1) l):=by
 unfold ky
 rw [if_neg (by omega : ¬ i+1=0)]
 split
 ·rw [join_cons]; rfl
 ·rfl
theorem JL {s:By} {v:JV} (h:ry s = .ok v):okV 8 v∧(gE 8 v).length≤s.length∧s.length≤400:=by
 unfold ry at h
 split at h
 ·cases h
 ·rename_i h4
  cases hv:fG 8 s with
  | error e=>rw [hv] at h; cases h
  | ok w =>
   obtain ⟨v',r⟩:=w
   rw [hv] at h
   simp only at h
   split at h
   ·cases h
    obtain ⟨o1,_,_,o4⟩:=qA 8 s v r hv
    exact ⟨o1,by omega,by omega⟩
   ·cases h
end Go.Vm
