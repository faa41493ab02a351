import Derived.Test.YtcnigpigmhpakaaGreatDoorPu1
import Derived.Test.YtcnigpigmhpakaaGreatDoorPsc1
import Derived.Test.YtcnigpigmhpakaaGreatDoorFref4
/- Heads: requests as texts of lines, plainly; one turned is the same. No condition but on lengths. -/
namespace Go.Vm
set_option linter.unusedVariables false
set_option linter.unusedSimpArgs false
abbrev HB:=B8
def cutAt (d:UInt8):HB→Option (HB×HB)
 | []=>none
 | c :: s=>if c=d then some ([],s) else (cutAt d s).map fun x=>(c :: x.1,x.2)
theorem pF {d:UInt8} : ∀ (a b:HB),(∀ c∈a,c≠d)→cutAt d (a ++ d :: b)=some (a,b)
 | [],b,h=>by simp [cutAt]
 | c :: a,b,h=>by
  have hc:=h c (List.mem_cons_self ..)
  rw [List.cons_append,cutAt,if_neg hc,pF a b fun x hx=>h x (List.mem_cons_of_mem _ hx)]
  rfl
theorem nk {d:UInt8} : ∀ (s a b:HB),cutAt d s=some (a,b)→s=a ++ d :: b ∧ ∀ c∈a,c≠d
 | [],a,b,h=>by cases h
 | c :: s,a,b,h=>by
  unfold cutAt at h
  by_cases hc:c=d
  ·rw [if_pos hc] at h
   cases h
   exact ⟨by rw [hc]; rfl,fun x hx=>by cases hx⟩
  ·rw [if_neg hc] at h
   obtain ⟨⟨x,y⟩,hx,he⟩:=Option.map_eq_some_iff.1 h
   cases he
   obtain ⟨h1,h2⟩:=nk s x y hx
   refine ⟨by rw [h1]; rfl,fun z hz => ?_⟩
   rcases List.mem_cons.1 hz with rfl | hz
   ·exact hc
   ·exact h2 z hz
end Go.Vm
/- Acts line by line, plainly: written, read again, and any text read. No condition. -/
namespace Go.Vm
open Go.Lib (decDigits itoa)
set_option linter.unusedVariables false
set_option linter.unusedSimpArgs false
def iy (P:By→Option di):Nat→Nat→List di→By→List di×Nat×Int
 | 0,_,out,_=>(out,0,0)
 | f+1,n,out,s=>if s = [] then (out,0,0) else match cutAt 10 s with
  | none=>(out,n,3)
  | some (x,r)=>match P x with
   | none=>(out,n,3)
   | some a=>iy P f (n+1) (out ++ [a]) r
def cR (l:List di):By:=l.flatMap fun a=>aT a ++ [10]
theorem C9 : ∀ n:Fin 16,oF n.val≠10:=by decide
theorem Ip (c:UInt8) : ∀ d∈kT c,d≠10:=by
 intro d hd
 unfold kT at hd
 split at hd
 ·rename_i h
  simp only [List.mem_cons,List.not_mem_nil,or_false] at hd
  rcases hd with rfl | rfl
  ·decide
  ·rintro rfl
   exact absurd h (by decide)
 split at hd
 ·simp only [List.mem_cons,List.not_mem_nil,or_false] at hd
  rcases hd with rfl | rfl <;> decide
 split at hd
 ·simp only [List.mem_cons,List.not_mem_nil,or_false] at hd
  rcases hd with rfl | rfl <;> decide
 split at hd
 ·simp only [List.mem_cons,List.not_mem_nil,or_false] at hd
  rcases hd with rfl | rfl <;> decide
 split at hd
 ·simp only [List.mem_cons,List.not_mem_nil,or_false] at hd
  rcases hd with rfl | rfl <;> decide
 split at hd
 ·simp only [List.mem_cons,List.not_mem_nil,or_false] at hd
  rcases hd with rfl | rfl <;> decide
 split at hd
 ·rename_i h
  have h1:=C9 ⟨c.toNat / 16,by omega⟩
  have h2:=C9 ⟨c.toNat % 16,by omega⟩
  simp only [List.mem_cons,List.not_mem_nil,or_false] at hd
  rcases hd with rfl | rfl | rfl | rfl | rfl | rfl
  ·decide
  ·decide
  ·decide
  ·decide
  ·exact h1
  ·exact h2
 ·rename_i h
  simp only [List.mem_cons,List.not_mem_nil,or_false] at hd
  subst hd
  rintro rfl
  exact h (by decide)
theorem JQ (t:By) : ∀ d∈quo t,d≠10:=by
 intro d hd
 unfold quo at hd
 rcases List.mem_cons.1 hd with rfl | hd
 ·decide
 rcases List.mem_append.1 hd with hd | hd
 ·unfold fS at hd
  obtain ⟨c,_,hd⟩:=List.mem_flatMap.1 hd
  exact Ip c d hd
 ·obtain rfl:d=34:=by simpa using hd
  decide
theorem CO (n:Int) : ∀ d∈itoa n,d≠10:=by
 have hd : ∀ c:UInt8,bj c=true→c≠10:=by
  intro c hc
  rintro rfl; exact absurd hc (by decide)
 intro c hc
 unfold itoa at hc
 split at hc
 ·rcases List.mem_cons.1 hc with rfl | hc
  ·decide
  ·exact hd c ((iM n.natAbs).1 c hc)
 ·exact hd c ((iM n.toNat).1 c hc)
theorem xQ : ∀ ps:List By,(∀ p∈ps, ∀ d∈p,d≠10) → ∀ d∈eM ps,d≠10
 | [],_,d,hd=>by cases hd
 | [p],h,d,hd=>h p List.mem_cons_self d hd
 | p :: q :: r,h,d,hd=>by
  have hd:d∈p ++ 32 :: eM (q :: r):=hd
  rcases List.mem_append.1 hd with hd | hd
  ·exact h p List.mem_cons_self d hd
  rcases List.mem_cons.1 hd with rfl | hd
  ·decide
  ·exact xQ (q :: r) (fun x hx=>h x (List.mem_cons_of_mem _ hx)) d hd
theorem Gt : ∀ w∈aH, ∀ d∈w,d≠10:=by decide +kernel
theorem AO (x:di) : ∀ d∈aT x,d≠10:=by
 refine xQ _ (fun p hp => ?_)
 rcases List.mem_cons.1 hp with rfl | hp
 ·rw [List.getD_eq_getElem?_getD]
  cases hg:aH[x.kind.toNat]? with
  | none=>intro d hd; cases hd
  | some w=>exact Gt w (List.mem_of_getElem? hg)
 ·unfold dW at hp
  rcases List.mem_append.1 hp with hp | hp
  ·obtain ⟨n,_,rfl⟩:=List.mem_map.1 hp
   exact CO n
  ·split at hp
   ·simp only [List.mem_cons,List.not_mem_nil,or_false] at hp
    rcases hp with rfl | rfl | rfl | rfl | rfl
    ·exact CO _
    all_goals exact JQ _
   ·cases hp
theorem uL {P:By→Option di} : ∀ (l out:List di) (f n:Nat),(∀ a∈l,P (aT a)=some a)→l.length<f→iy P f n out (cR l)=(out ++ l,0,0)
 | [],out,0,n,_,h=>by simp at h
 | [],out,f+1,n,_,_=>by
  show (if ([]:By) = [] then _ else _) = _
  rw [if_pos rfl,List.append_nil]
 | a :: l,out,0,n,_,h=>by simp at h
 | a :: l,out,f+1,n,hP,h=>by
  have e:cR (a :: l)=aT a ++ 10 :: cR l:=by
   unfold cR
   rw [List.flatMap_cons,List.append_assoc]; rfl
  unfold iy
  rw [e,if_neg (by intro e; exact absurd (List.append_eq_nil_iff.1 e).2 (by simp)),pF _ _ (AO a)]
  simp only
  rw [hP a List.mem_cons_self]
  simp only
  rw [uL l (out ++ [a]) f (n+1) (fun b hb=>hP b (List.mem_cons_of_mem _ hb)) (by simp at h; omega),List.append_assoc]
  rfl
def zx (P:By→Option di):Nat→List di→By→By→List di×Nat×Int
 | line,out,cur,[]=>if cur = [] then (out,0,0) else (out,line+1,3)
 | line,out,cur,c :: s=>if c=10 then (match P cur with
   | none=>(out,line+1,3)
   | some a=>zx P (line+1) (out ++ [a]) [] s) else zx P line out (cur ++ [c]) s
theorem vG {d:UInt8} : ∀ s:By,(∀ c∈s,c≠d)→cutAt d s=none
 | [],_=>rfl
 | c :: s,h=>by
  unfold cutAt
  rw [if_neg (h c List.mem_cons_self),vG s fun x hx=>h x (List.mem_cons_of_mem _ hx)]
  rfl
theorem zw {P:By→Option di} : ∀ (s:By) (f line:Nat) (out:List di) (cur:By),(∀ c∈cur,c≠10)→(cur ++ s).length<f→zx P line out cur s=iy P f (line+1) out (cur ++ s)
 | [],f,line,out,cur,hc,hf=>by
  match f,hf with
  | f+1,hf =>
   unfold iy zx
   rw [List.append_nil]
   by_cases h:cur = []
   ·rw [if_pos h,if_pos h]
   ·rw [if_neg h,if_neg h,vG cur hc]
 | c :: s,f,line,out,cur,hc,hf=>by
  unfold zx
  by_cases h:c=10
  ·subst h
   rw [if_pos rfl]
   match f,hf with
   | f+1,hf =>
    unfold iy
    rw [if_neg (by intro e; exact absurd (List.append_eq_nil_iff.1 e).2 (by simp)),pF _ _ hc]
    simp only
    cases P cur with
    | none=>rfl
    | some a =>
     simp only
     have:=zw (P:=P) s f (line+1) (out ++ [a]) [] (fun c h=>by cases h) (by simp at hf ⊢; omega)
     rw [List.nil_append] at this
     exact this
  ·rw [if_neg h,zw s f line out (cur ++ [c]) (fun x hx=>by
    rcases List.mem_append.1 hx with hx | hx
    ·exact hc x hx
    ·obtain rfl:x=c:=by simpa using hx
     exact h) (by simp at hf ⊢; omega),List.append_assoc]
   rfl
end Go.Vm
/- The document's first sign and a sign's bytes, plainly. No condition but on lengths. -/
namespace Go.Vm
open Go.Lib (decodeL decodeN decodeL_N decode_N decodeN_shape decodeL_le)
set_option linter.unusedVariables false
set_option linter.unusedSimpArgs false
theorem yA (F:Nat) (l:B8) (k:Nat):bm F (l,(k:Int))=some (decide (k<l.length∧128≤(l.getD k 0).toNat∧(l.getD k 0).toNat<192)):=by
 unfold bm
 simp only [pI]
 by_cases h:k<l.length
 ·have h':(k:Int)<(l.length:Int):=by omega
  simp only [pI,h,h',decide_true,if_true,Option.bind_some,true_and,cC,cH,ite_self,Bool.if_false_right]
  rw [Option.some.injEq,Bool.eq_iff_iff]
  simp
  omega
 ·have h' : ¬ (k:Int)<(l.length:Int):=by omega
  simp [h,h']
set_option maxHeartbeats 1000000 in
theorem zW (F:Nat) (l:B8) (hn:l ≠ []):dD F l=some (((decodeL l).1:Int),((decodeL l).2:Int)):=by
 have h0:0<l.length:=List.length_pos_iff.2 hn
 have k0:=(l.getD 0 0).toNat_lt
 have k1:=(l.getD 1 0).toNat_lt
 have k2:=(l.getD 2 0).toNat_lt
 have k3:=(l.getD 3 0).toNat_lt
 have t1:=yA F l 1
 have t2:=yA F l 2
 have t3:=yA F l 3
 have i0:=pI l 0
 have i1:=pI l 1
 have i2:=pI l 2
 have i3:=pI l 3
 simp only [Int.cast_ofNat_Int] at t1 t2 t3 i0 i1 i2 i3
 rw [decodeL_N]
 unfold dD
 generalize hc0:l.getD 0 0=c0 at *
 generalize hc1:l.getD 1 0=c1 at *
 generalize hc2:l.getD 2 0=c2 at *
 generalize hc3:l.getD 3 0=c3 at *
 clear hc0 hc1 hc2 hc3
 simp only [i0,if_pos h0,Option.bind_some]
 simp (disch:=omega) only [wrap64]
 rcases decodeN_shape l.length c0.toNat c1.toNat c2.toNat c3.toNat with ⟨p1,e⟩ | ⟨p1,p2,p3,p4,e⟩ | ⟨p1,p2,p3,p4,p5,p6,e⟩ | ⟨p1,p2,p3,p4,p5,p6,p7,e⟩ | e
 ·rw [e]
  have q1:(c0.toNat:Int)<128:=by omega
  simp only [t1,t2,t3,cC,cH,ite_self,Option.bind_some,Option.bind_none,Bool.if_false_right,Bool.if_false_left,cQ,aE,aZ,decide_true,decide_false,if_true,if_false,Bool.and_true,Bool.true_and,Bool.and_false,Bool.false_and,Bool.false_eq_true,true_and,and_true,false_and,and_false,decide_eq_true_eq,q1]
  rfl
 ·rw [e]
  have q1 : ¬ (c0.toNat:Int)<128:=by omega
  have q2:(194:Int)≤(c0.toNat:Int):=by omega
  have q3:(c0.toNat:Int)<224:=by omega
  have q4:128≤c1.toNat:=by omega
  have q5:c1.toNat<192:=by omega
  simp only [t1,t2,t3,cC,cH,ite_self,Option.bind_some,Option.bind_none,Bool.if_false_right,Bool.if_false_left,cQ,aE,aZ,decide_true,decide_false,if_true,if_false,Bool.and_true,Bool.true_and,Bool.and_false,Bool.false_and,Bool.false_eq_true,true_and,and_true,false_and,and_false,decide_eq_true_eq,q1,q2,q3,q4,q5,p2,i1]
  simp (disch:=omega) only [wrap64]
  simp only [Option.some.injEq,Prod.mk.injEq]
  omega
 ·rw [e]
  have q1 : ¬ (c0.toNat:Int)<128:=by omega
  have q2:(194:Int)≤(c0.toNat:Int):=by omega
  have q3 : ¬ (c0.toNat:Int)<224:=by omega
  have q6:(224:Int)≤(c0.toNat:Int):=by omega
  have q7:(c0.toNat:Int)<240:=by omega
  have q4:128≤c1.toNat:=by omega
  have q5:c1.toNat<192:=by omega
  have q8:128≤c2.toNat:=by omega
  have q9:c2.toNat<192:=by omega
  have q0:1<l.length:=by omega
  simp only [t1,t2,t3,cC,cH,ite_self,Option.bind_some,Option.bind_none,Bool.if_false_right,Bool.if_false_left,cQ,aE,aZ,decide_true,decide_false,if_true,if_false,Bool.and_true,Bool.true_and,Bool.and_false,Bool.false_and,Bool.false_eq_true,true_and,and_true,false_and,and_false,decide_eq_true_eq,q1,q2,q3,q4,q5,q6,q7,q8,q9,q0,p2,i1,i2]
  simp (disch:=omega) only [wrap64]
  have r1:(2048:Int)≤((c0.toNat:Int) - 224) * 4096+((c1.toNat:Int) - 128) * 64+(c2.toNat:Int) - 128:=by omega
  by_cases r2:((c0.toNat:Int) - 224) * 4096+((c1.toNat:Int) - 128) * 64+(c2.toNat:Int) - 128<55296
  ·simp only [t1,t2,t3,cC,cH,ite_self,Option.bind_some,Option.bind_none,Bool.if_false_right,Bool.if_false_left,cQ,aE,aZ,decide_true,decide_false,if_true,if_false,Bool.and_true,Bool.true_and,Bool.and_false,Bool.false_and,Bool.false_eq_true,true_and,and_true,false_and,and_false,decide_eq_true_eq,r1,r2,Bool.true_eq_false]
   simp only [Option.some.injEq,Prod.mk.injEq]
   omega
  ·have r3:(57343:Int)<((c0.toNat:Int) - 224) * 4096+((c1.toNat:Int) - 128) * 64+(c2.toNat:Int) - 128:=by omega
   simp only [t1,t2,t3,cC,cH,ite_self,Option.bind_some,Option.bind_none,Bool.if_false_right,Bool.if_false_left,cQ,aE,aZ,decide_true,decide_false,if_true,if_false,Bool.and_true,Bool.true_and,Bool.and_false,Bool.false_and,Bool.false_eq_true,true_and,and_true,false_and,and_false,decide_eq_true_eq,r1,r2,r3]
   simp only [Option.some.injEq,Prod.mk.injEq]
   omega
 ·rw [e]
  have q1 : ¬ (c0.toNat:Int)<128:=by omega
  have q2:(194:Int)≤(c0.toNat:Int):=by omega
  have q3 : ¬ (c0.toNat:Int)<224:=by omega
  have q6:(224:Int)≤(c0.toNat:Int):=by omega
  have q7 : ¬ (c0.toNat:Int)<240:=by omega
  have qa:(240:Int)≤(c0.toNat:Int):=by omega
  have qb:(c0.toNat:Int)<245:=by omega
  have q4:128≤c1.toNat:=by omega
  have q5:c1.toNat<192:=by omega
  have q8:128≤c2.toNat:=by omega
  have q9:c2.toNat<192:=by omega
  have qc:128≤c3.toNat:=by omega
  have qd:c3.toNat<192:=by omega
  have q0:1<l.length:=by omega
  have qe:2<l.length:=by omega
  simp only [t1,t2,t3,cC,cH,ite_self,Option.bind_some,Option.bind_none,Bool.if_false_right,Bool.if_false_left,cQ,aE,aZ,decide_true,decide_false,if_true,if_false,Bool.and_true,Bool.true_and,Bool.and_false,Bool.false_and,Bool.false_eq_true,true_and,and_true,false_and,and_false,decide_eq_true_eq,q1,q2,q3,q4,q5,q6,q7,q8,q9,q0,qa,qb,qc,qd,qe,p2,i1,i2,i3]
  simp (disch:=omega) only [wrap64]
  have r1:(65536:Int)≤((c0.toNat:Int) - 240) * 262144+((c1.toNat:Int) - 128) * 4096+((c2.toNat:Int) - 128) * 64+(c3.toNat:Int) - 128:=by omega
  have r2:((c0.toNat:Int) - 240) * 262144+((c1.toNat:Int) - 128) * 4096+((c2.toNat:Int) - 128) * 64+(c3.toNat:Int) - 128≤1114111:=by omega
  simp only [t1,t2,t3,cC,cH,ite_self,Option.bind_some,Option.bind_none,Bool.if_false_right,Bool.if_false_left,cQ,aE,aZ,decide_true,decide_false,if_true,if_false,Bool.and_true,Bool.true_and,Bool.and_false,Bool.false_and,Bool.false_eq_true,true_and,and_true,false_and,and_false,decide_eq_true_eq,r1,r2]
  simp only [Option.some.injEq,Prod.mk.injEq]
  omega
 ·rw [e]
  have q1 : ¬ (c0.toNat:Int)<128:=by
   intro h
   unfold decodeN at e
   rw [if_pos (by omega)] at e
   simp only [Prod.mk.injEq] at e
   omega
  have hb : ¬ (194≤c0.toNat∧c0.toNat<224∧1<l.length∧128≤c1.toNat∧c1.toNat<192):=by
   intro h
   unfold decodeN at e
   rw [if_neg (by omega),if_pos (by omega),if_pos (by omega)] at e
   simp only [Prod.mk.injEq] at e
   omega
  have hc : ¬ (224≤c0.toNat∧c0.toNat<240∧1<l.length∧128≤c1.toNat∧c1.toNat<192∧2<l.length∧128≤c2.toNat∧c2.toNat<192 ∧
    2048≤((c0.toNat:Int) - 224) * 4096+((c1.toNat:Int) - 128) * 64+(c2.toNat:Int) - 128∧(((c0.toNat:Int) - 224) * 4096+((c1.toNat:Int) - 128) * 64+(c2.toNat:Int) - 128<55296∨57343<((c0.toNat:Int) - 224) * 4096+((c1.toNat:Int) - 128) * 64+(c2.toNat:Int) - 128)):=by
   intro h
   unfold decodeN at e
   rw [if_neg (by omega),if_neg (by omega),if_pos (by omega),if_pos (by omega)] at e
   simp only [Prod.mk.injEq] at e
   omega
  have hd : ¬ (240≤c0.toNat∧c0.toNat<245∧1<l.length∧128≤c1.toNat∧c1.toNat<192∧2<l.length∧128≤c2.toNat∧c2.toNat<192∧3<l.length∧128≤c3.toNat∧c3.toNat<192 ∧
    65536≤((c0.toNat:Int) - 240) * 262144+((c1.toNat:Int) - 128) * 4096+((c2.toNat:Int) - 128) * 64+(c3.toNat:Int) - 128∧((c0.toNat:Int) - 240) * 262144+((c1.toNat:Int) - 128) * 4096+((c2.toNat:Int) - 128) * 64+(c3.toNat:Int) - 128≤1114111):=by
   intro h
   unfold decodeN at e
   rw [if_neg (by omega),if_neg (by omega),if_neg (by omega),if_pos (by omega),if_pos (by omega)] at e
   simp only [Prod.mk.injEq] at e
   omega
  clear e
  by_cases g1:c0.toNat<194
  ·have q2 : ¬ (194:Int)≤(c0.toNat:Int):=by omega
   have q6 : ¬ (224:Int)≤(c0.toNat:Int):=by omega
   have qa : ¬ (240:Int)≤(c0.toNat:Int):=by omega
   simp only [t1,t2,t3,cC,cH,ite_self,Option.bind_some,Option.bind_none,Bool.if_false_right,Bool.if_false_left,cQ,aE,aZ,decide_true,decide_false,if_true,if_false,Bool.and_true,Bool.true_and,Bool.and_false,Bool.false_and,Bool.false_eq_true,true_and,and_true,false_and,and_false,decide_eq_true_eq,q1,q2,q6,qa]
   rfl
  have q2:(194:Int)≤(c0.toNat:Int):=by omega
  by_cases g2:c0.toNat<224
  ·have q3:(c0.toNat:Int)<224:=by omega
   have q6 : ¬ (224:Int)≤(c0.toNat:Int):=by omega
   have qa : ¬ (240:Int)≤(c0.toNat:Int):=by omega
   have q4 : ¬ (1<l.length∧128≤c1.toNat∧c1.toNat<192):=by omega
   simp only [t1,t2,t3,cC,cH,ite_self,Option.bind_some,Option.bind_none,Bool.if_false_right,Bool.if_false_left,cQ,aE,aZ,decide_true,decide_false,if_true,if_false,Bool.and_true,Bool.true_and,Bool.and_false,Bool.false_and,Bool.false_eq_true,true_and,and_true,false_and,and_false,decide_eq_true_eq,q1,q2,q3,q4,q6,qa]
   rfl
  have q3 : ¬ (c0.toNat:Int)<224:=by omega
  have q6:(224:Int)≤(c0.toNat:Int):=by omega
  by_cases g3:c0.toNat<240
  ·have q7:(c0.toNat:Int)<240:=by omega
   have qa : ¬ (240:Int)≤(c0.toNat:Int):=by omega
   by_cases q4:1<l.length∧128≤c1.toNat∧c1.toNat<192
   ·by_cases q5:2<l.length∧128≤c2.toNat∧c2.toNat<192
    ·obtain ⟨z1,z2,z3⟩:=q4
     obtain ⟨z4,z5,z6⟩:=q5
     simp only [t1,t2,t3,cC,cH,ite_self,Option.bind_some,Option.bind_none,Bool.if_false_right,Bool.if_false_left,cQ,aE,aZ,decide_true,decide_false,if_true,if_false,Bool.and_true,Bool.true_and,Bool.and_false,Bool.false_and,Bool.false_eq_true,true_and,and_true,false_and,and_false,decide_eq_true_eq,q1,q2,q3,q6,q7,qa,z1,z2,z3,z4,z5,z6,i1,i2]
     simp (disch:=omega) only [wrap64]
     by_cases r1:(2048:Int)≤((c0.toNat:Int) - 224) * 4096+((c1.toNat:Int) - 128) * 64+(c2.toNat:Int) - 128
     ·have r2 : ¬ ((c0.toNat:Int) - 224) * 4096+((c1.toNat:Int) - 128) * 64+(c2.toNat:Int) - 128<55296:=by omega
      have r3 : ¬ (57343:Int)<((c0.toNat:Int) - 224) * 4096+((c1.toNat:Int) - 128) * 64+(c2.toNat:Int) - 128:=by omega
      simp only [t1,t2,t3,cC,cH,ite_self,Option.bind_some,Option.bind_none,Bool.if_false_right,Bool.if_false_left,cQ,aE,aZ,decide_true,decide_false,if_true,if_false,Bool.and_true,Bool.true_and,Bool.and_false,Bool.false_and,Bool.false_eq_true,true_and,and_true,false_and,and_false,decide_eq_true_eq,r1,r2,r3,qa]
      rfl
     ·simp only [t1,t2,t3,cC,cH,ite_self,Option.bind_some,Option.bind_none,Bool.if_false_right,Bool.if_false_left,cQ,aE,aZ,decide_true,decide_false,if_true,if_false,Bool.and_true,Bool.true_and,Bool.and_false,Bool.false_and,Bool.false_eq_true,true_and,and_true,false_and,and_false,decide_eq_true_eq,r1,qa]
      rfl
    ·simp only [t1,t2,t3,cC,cH,ite_self,Option.bind_some,Option.bind_none,Bool.if_false_right,Bool.if_false_left,cQ,aE,aZ,decide_true,decide_false,if_true,if_false,Bool.and_true,Bool.true_and,Bool.and_false,Bool.false_and,Bool.false_eq_true,true_and,and_true,false_and,and_false,decide_eq_true_eq,q1,q2,q3,q4,q5,q6,q7,qa]
     rfl
   ·simp only [t1,t2,t3,cC,cH,ite_self,Option.bind_some,Option.bind_none,Bool.if_false_right,Bool.if_false_left,cQ,aE,aZ,decide_true,decide_false,if_true,if_false,Bool.and_true,Bool.true_and,Bool.and_false,Bool.false_and,Bool.false_eq_true,true_and,and_true,false_and,and_false,decide_eq_true_eq,q1,q2,q3,q4,q6,q7,qa]
    rfl
  have q7 : ¬ (c0.toNat:Int)<240:=by omega
  have qa:(240:Int)≤(c0.toNat:Int):=by omega
  by_cases g4:c0.toNat<245
  ·have qb:(c0.toNat:Int)<245:=by omega
   by_cases q4:1<l.length∧128≤c1.toNat∧c1.toNat<192
   ·by_cases q5:2<l.length∧128≤c2.toNat∧c2.toNat<192
    ·by_cases q8:3<l.length∧128≤c3.toNat∧c3.toNat<192
     ·obtain ⟨z1,z2,z3⟩:=q4
      obtain ⟨z4,z5,z6⟩:=q5
      obtain ⟨z7,z8,z9⟩:=q8
      simp only [t1,t2,t3,cC,cH,ite_self,Option.bind_some,Option.bind_none,Bool.if_false_right,Bool.if_false_left,cQ,aE,aZ,decide_true,decide_false,if_true,if_false,Bool.and_true,Bool.true_and,Bool.and_false,Bool.false_and,Bool.false_eq_true,true_and,and_true,false_and,and_false,decide_eq_true_eq,q1,q2,q3,q6,q7,qa,qb,z1,z2,z3,z4,z5,z6,z7,z8,z9,i1,i2,i3]
      simp (disch:=omega) only [wrap64]
      by_cases r1:(65536:Int)≤((c0.toNat:Int) - 240) * 262144+((c1.toNat:Int) - 128) * 4096+((c2.toNat:Int) - 128) * 64+(c3.toNat:Int) - 128
      ·have r2 : ¬ ((c0.toNat:Int) - 240) * 262144+((c1.toNat:Int) - 128) * 4096+((c2.toNat:Int) - 128) * 64+(c3.toNat:Int) - 128≤1114111:=by omega
       simp only [t1,t2,t3,cC,cH,ite_self,Option.bind_some,Option.bind_none,Bool.if_false_right,Bool.if_false_left,cQ,aE,aZ,decide_true,decide_false,if_true,if_false,Bool.and_true,Bool.true_and,Bool.and_false,Bool.false_and,Bool.false_eq_true,true_and,and_true,false_and,and_false,decide_eq_true_eq,r1,r2]
       rfl
      ·simp only [t1,t2,t3,cC,cH,ite_self,Option.bind_some,Option.bind_none,Bool.if_false_right,Bool.if_false_left,cQ,aE,aZ,decide_true,decide_false,if_true,if_false,Bool.and_true,Bool.true_and,Bool.and_false,Bool.false_and,Bool.false_eq_true,true_and,and_true,false_and,and_false,decide_eq_true_eq,r1]
       rfl
     ·simp only [t1,t2,t3,cC,cH,ite_self,Option.bind_some,Option.bind_none,Bool.if_false_right,Bool.if_false_left,cQ,aE,aZ,decide_true,decide_false,if_true,if_false,Bool.and_true,Bool.true_and,Bool.and_false,Bool.false_and,Bool.false_eq_true,true_and,and_true,false_and,and_false,decide_eq_true_eq,q1,q2,q3,q4,q5,q6,q7,q8,qa,qb]
      rfl
    ·simp only [t1,t2,t3,cC,cH,ite_self,Option.bind_some,Option.bind_none,Bool.if_false_right,Bool.if_false_left,cQ,aE,aZ,decide_true,decide_false,if_true,if_false,Bool.and_true,Bool.true_and,Bool.and_false,Bool.false_and,Bool.false_eq_true,true_and,and_true,false_and,and_false,decide_eq_true_eq,q1,q2,q3,q4,q5,q6,q7,qa,qb]
     rfl
   ·simp only [t1,t2,t3,cC,cH,ite_self,Option.bind_some,Option.bind_none,Bool.if_false_right,Bool.if_false_left,cQ,aE,aZ,decide_true,decide_false,if_true,if_false,Bool.and_true,Bool.true_and,Bool.and_false,Bool.false_and,Bool.false_eq_true,true_and,and_true,false_and,and_false,decide_eq_true_eq,q1,q2,q3,q4,q6,q7,qa,qb]
    rfl
  have qb : ¬ (c0.toNat:Int)<245:=by omega
  simp only [t1,t2,t3,cC,cH,ite_self,Option.bind_some,Option.bind_none,Bool.if_false_right,Bool.if_false_left,cQ,aE,aZ,decide_true,decide_false,if_true,if_false,Bool.and_true,Bool.true_and,Bool.and_false,Bool.false_and,Bool.false_eq_true,true_and,and_true,false_and,and_false,decide_eq_true_eq,q1,q2,q3,q6,q7,qa,qb]
  rfl
end Go.Vm
