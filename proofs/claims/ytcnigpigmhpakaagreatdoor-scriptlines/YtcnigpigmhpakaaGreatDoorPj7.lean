import Derived.Test.YtcnigpigmhpakaaGreatDoorFr9
import Derived.Test.YtcnigpigmhpakaaGreatDoorPu1
import Derived.Test.YtcnigpigmhpakaaGreatDoorFbld
import Derived.Test.YtcnigpigmhpakaaGreatDoorPj6
/- A sign's bytes as the document has them, plainly. No condition but on lengths. -/
namespace Go.Vm
open Go.Lib (decodeL decodeN decodeL_N decode_N decodeN_shape decodeL_le)
set_option linter.unusedVariables false
set_option linter.unusedSimpArgs false
theorem sX (F c:Nat) (h:okR c):aO F (c:Int)=some (pN (c:Int)):=by
 obtain ⟨h1,h2⟩:=h
 rw [lI c ⟨h1,h2⟩]
 unfold aO cj
 have d1:(c:Int).tdiv 64=((c / 64:Nat):Int):=by rw [Int.tdiv_eq_ediv_of_nonneg (by omega)]; omega
 have d2:(c:Int).tdiv 4096=((c / 4096:Nat):Int):=by rw [Int.tdiv_eq_ediv_of_nonneg (by omega)]; omega
 have d3:(c:Int).tdiv 262144=((c / 262144:Nat):Int):=by rw [Int.tdiv_eq_ediv_of_nonneg (by omega)]; omega
 have m1 : ∀ d:Nat,(d:Int).tmod 64=((d % 64:Nat):Int):=fun d=>by rw [Int.tmod_eq_emod_of_nonneg (by omega)]; omega
 simp only [d1,d2,d3]
 simp (disch:=omega) only [wrap64]
 simp only [m1]
 simp (disch:=omega) only [wrap64]
 by_cases c1:c<128
 ·have:(c:Int)<128:=by omega
  simp only [c1,this,if_true,decide_true]
  rw [jf _ (by omega) (by omega)]
  simp
 have n1 : ¬ (c:Int)<128:=by omega
 by_cases c2:c<2048
 ·have:(c:Int)<2048:=by omega
  simp only [c1,n1,c2,this,if_true,if_false,decide_true,decide_false,Bool.false_eq_true]
  rw [jf _ (by omega) (by omega),jf _ (by omega) (by omega)]
  congr 3 <;> omega
 have n2 : ¬ (c:Int)<2048:=by omega
 by_cases c3:c<65536
 ·have:(c:Int)<65536:=by omega
  simp only [c1,n1,c2,n2,c3,this,if_true,if_false,decide_true,decide_false,Bool.false_eq_true]
  rw [jf _ (by omega) (by omega),jf _ (by omega) (by omega),jf _ (by omega) (by omega)]
  congr 3
  all_goals first | omega | (congr 2 <;> omega)
 have n3 : ¬ (c:Int)<65536:=by omega
 simp only [c1,n1,c2,n2,c3,n3,if_true,if_false,decide_true,decide_false,Bool.false_eq_true]
 rw [jf _ (by omega) (by omega),jf _ (by omega) (by omega),jf _ (by omega) (by omega),jf _ (by omega) (by omega)]
 congr 3
 all_goals first | omega | (congr 2 <;> omega)
end Go.Vm
/- A sign written by strings.Builder, plainly. No condition but on lengths. -/
namespace Go.Vm
open Go.Lib (decodeL decodeN decodeL_N decode_N decodeN_shape decodeL_le)
set_option linter.unusedVariables false
set_option linter.unusedSimpArgs false
set_option maxHeartbeats 1000000 in
theorem append_eq (F c:Nat) (h:okR c) (l:B8) (hl:l.length≤1000000000000):cB F (l,(c:Int))=some (l ++ pN (c:Int)):=by
 rw [lI c h]
 obtain ⟨h1,h2⟩:=h
 have u:IntKind.u32.wrap (c:Int)=(c:Int):=Iu _ (by omega) (by omega)
 have s6:shr .i32 (c:Int) 6=((c / 64:Nat):Int):=za c 6 (by omega)
 have s12:shr .i32 (c:Int) 12=((c / 4096:Nat):Int):=za c 12 (by omega)
 have s18:shr .i32 (c:Int) 18=((c / 262144:Nat):Int):=za c 18 (by omega)
 have L1:(l.length+1) * 1≤140737488355328:=by omega
 have L2:(l.length+2) * 1≤140737488355328:=by omega
 have L3:(l.length+3) * 1≤140737488355328:=by omega
 have L4:(l.length+4) * 1≤140737488355328:=by omega
 unfold cB dr cj
 simp only [u,s6,s12,s18,Ir,List.length_cons,List.length_nil,Nat.zero_add,Nat.reduceAdd,L1,L2,L3,L4,decide_true,if_true,Option.bind_some]
 by_cases c1:c<128
 ·have:(c:Int)≤127:=by omega
  simp only [c1,this,if_true,decide_true]
  rw [jf _ (by omega) (by omega)]
  simp
 have n1 : ¬ (c:Int)≤127:=by omega
 by_cases c2:c<2048
 ·have:(c:Int)≤2047:=by omega
  simp only [c1,n1,c2,this,if_true,if_false,decide_true,decide_false,Bool.false_eq_true,Option.bind_some]
  rw [jf _ (by omega) (by omega),Kf _ (by omega)]
  simp only [Int.toNat_natCast]
 have n2 : ¬ (c:Int)≤2047:=by omega
 by_cases c3:c<65536
 ·have w:(c:Int)≤65535:=by omega
  have:(c:Int)<55296∨(57343:Int)<c:=by omega
  have hx:ior .u8 224 (IntKind.u8.wrap ((c / 4096:Nat):Int))=((224+c / 4096:Nat):Int):=by rw [jf _ (by omega) (by omega),KA _ (by omega)]
  by_cases c4:(c:Int)<55296
  ·simp only [c1,n1,c2,n2,c3,c4,if_true,if_false,decide_true,decide_false,Bool.false_eq_true,Option.bind_some,Int.toNat_natCast,L3,hx,Ir,s6,s12,s18]
  ·have c5:(57343:Int)<c:=by omega
   simp only [c1,n1,c2,n2,c3,c4,c5,w,if_true,if_false,decide_true,decide_false,Bool.false_eq_true,Option.bind_some,Int.toNat_natCast,L3,hx,Ir,s6,s12,s18]
 have n3 : ¬ (c:Int)≤65535:=by omega
 have c4 : ¬ (c:Int)<55296:=by omega
 have c5:(57343:Int)<c:=by omega
 have c6:(65535:Int)<c:=by omega
 have c7:(c:Int)≤1114111:=by omega
 have hx:ior .u8 240 (IntKind.u8.wrap ((c / 262144:Nat):Int))=((240+c / 262144:Nat):Int):=by rw [jf _ (by omega) (by omega),Kz _ (by omega)]
 simp only [c1,n1,c2,n2,c3,n3,c4,c5,c6,c7,if_true,if_false,decide_true,decide_false,Bool.false_eq_true,Option.bind_some,Int.toNat_natCast,L4,hx,Ir,s6,s12,s18]
theorem zI (F c:Nat) (h:okR c) (l:B8) (hl:l.length≤1000000000000) : ∃ n,bw F (((),l,()),(c:Int))=some ((n,()),(),l ++ pN (c:Int),()):=by
 unfold bw cd
 simp only [Option.bind_some,append_eq F c h l hl]
 exact ⟨_,rfl⟩
end Go.Vm
/- JSON, plainly: what is read may be, and is printed in no more bytes. No condition. -/
namespace Go.Vm
open Go.Lib (itoa)
set_option linter.unusedVariables false
set_option linter.unusedSimpArgs false
theorem FL (V:By→Except Nat (JV×By)) (f:JV→By) (O:JV→Prop) (hV : ∀ s v r,V s = .ok (v,r)→O v∧r <:+ s∧r.length<s.length∧(f v).length+r.length≤s.length) :
  ∀ (n:Nat) (s:By) (l:List JV) (r:By),nM V n s = .ok (l,r)→(∀ v∈l,O v)∧r <:+ s∧(bV (l.map f)).length+1+r.length≤s.length
 | 0,s,l,r,h=>by cases h
 | n+1,s,l,r,h=>by
  unfold nM at h
  cases hv:V s with
  | error e=>rw [hv] at h; cases h
  | ok x =>
   obtain ⟨v,r1⟩:=x
   rw [hv] at h
   obtain ⟨o1,o2,o3,o4⟩:=hV s v r1 hv
   simp only at h
   split at h
   ·rename_i r2 hs
    have q1:=dT r1
    have q2:(44 :: r2) <:+ r1:=hs ▸ av r1
    rw [hs,List.length_cons] at q1
    cases hl:nM V n r2 with
    | error e=>rw [hl] at h; cases h
    | ok y =>
     obtain ⟨l',r'⟩:=y
     rw [hl] at h
     cases h
     obtain ⟨i1,i2,i3⟩:=FL V f O hV n r2 l' r hl
     refine ⟨fun w hw => ?_,(i2.trans (List.suffix_cons _ _)).trans (q2.trans o2),?_⟩
     ·rcases List.mem_cons.1 hw with rfl | hw
      ·exact o1
      ·exact i1 w hw
     ·cases l' with
      | nil=>simp [bV] at i3 ⊢; omega
      | cons w l'=>simp only [List.map_cons,bV,List.length_append,List.length_cons] at i3 ⊢; omega
   ·rename_i r2 hs
    cases h
    have q1:=dT r1
    have q2:(93 :: r) <:+ r1:=hs ▸ av r1
    rw [hs,List.length_cons] at q1
    refine ⟨fun w hw => ?_,(List.suffix_cons _ _).trans (q2.trans o2),?_⟩
    ·rw [List.mem_singleton] at hw; subst hw; exact o1
    ·simp [bV]; omega
   ·cases h
def szM (f:JV→By) (l:List Me):Nat:=(l.map fun m=>(quo m.1 ++ 58 :: f m.2.1).length+1).sum
theorem CR {α:Type} (f:α→By) : ∀ (a:α) (l:List α),(bV ((a :: l).map f)).length+1=((a :: l).map fun x=>(f x).length+1).sum
 | a,[]=>by simp [bV]
 | a,b :: l=>by
  have:=CR f b l
  simp only [List.map_cons,bV,List.length_append,List.length_cons,List.sum_cons] at this ⊢
  omega
theorem E6 (V:By→Except Nat (JV×By)) (f:JV→By) (O:JV→Prop) (hV : ∀ s v r,V s = .ok (v,r)→O v∧r <:+ s∧r.length<s.length∧(f v).length+r.length≤s.length) :
  ∀ (n:Nat) (acc:List Me) (s:By) (l:List Me) (r:By),nz V n acc s = .ok (l,r)→Uni acc→(∀ m∈acc,OkT m.1∧O m.2.1)→Uni l∧l ≠ []∧(∀ m∈l,OkT m.1∧O m.2.1)∧r <:+ s∧szM f l+r.length≤szM f acc+s.length
 | 0,acc,s,l,r,h,_,_=>by cases h
 | n+1,acc,s,l,r,h,hu,ha=>by
  unfold nz at h
  split at h
  ·rename_i r0 h0
   have q1:=dT s
   have q2:(34 :: r0) <:+ s:=h0 ▸ av s
   rw [h0,List.length_cons] at q1
   split at h
   ·cases h
   ·rename_i name r1 h1
    obtain ⟨t1,t2,t3⟩:=sl r0 h1
    split at h
    ·cases h
    ·rename_i hnew
     split at h
     ·rename_i r2 h2
      have q3:=dT r1
      have q4:(58 :: r2) <:+ r1:=h2 ▸ av r1
      rw [h2,List.length_cons] at q3
      cases hv:V r2 with
      | error e=>rw [hv] at h; cases h
      | ok x =>
       obtain ⟨v,r3⟩:=x
       rw [hv] at h
       obtain ⟨o1,o2,o3,o4⟩:=hV r2 v r3 hv
       have hu':Uni (acc ++ [(name,v,())]):=by
        refine List.pairwise_append.2 ⟨hu,List.pairwise_singleton _ _,fun x hx y hy => ?_⟩
        rw [List.mem_singleton] at hy
        subst hy
        intro e
        apply hnew
        rw [List.any_eq_true]
        exact ⟨x,hx,by simpa using e⟩
       have ha' : ∀ m∈acc ++ [(name,v,())],OkT m.1∧O m.2.1:=by
        intro m hm
        rcases List.mem_append.1 hm with hm | hm
        ·exact ha m hm
        ·rw [List.mem_singleton] at hm; subst hm; exact ⟨t1,o1⟩
       have hz:szM f (acc ++ [(name,v,())])=szM f acc+((fS name).length+(f v).length+4):=by
        unfold szM quo
        simp
        omega
       have hsuf:r3 <:+ s:=o2.trans ((List.suffix_cons _ _).trans (q4.trans (t2.trans ((List.suffix_cons _ _).trans q2))))
       simp only at h
       split at h
       ·rename_i r4 h4
        have q5:=dT r3
        have q6:(44 :: r4) <:+ r3:=h4 ▸ av r3
        rw [h4,List.length_cons] at q5
        obtain ⟨i1,i2,i3,i4,i5⟩:=E6 V f O hV n _ r4 l r h hu' ha'
        exact ⟨i1,i2,i3,i4.trans ((List.suffix_cons _ _).trans (q6.trans hsuf)),by rw [hz] at i5; omega⟩
       ·rename_i r4 h4
        cases h
        have q5:=dT r3
        have q6:(125 :: r) <:+ r3:=h4 ▸ av r3
        rw [h4,List.length_cons] at q5
        exact ⟨hu',by simp,ha',(List.suffix_cons _ _).trans (q6.trans hsuf),by rw [hz]; omega⟩
       ·cases h
     ·cases h
  ·cases h
theorem IU (f:JV→By) {l l':List Me} (h:l.Perm l'):szM f l=szM f l':=(h.map _).sum_nat
theorem qA : ∀ (d:Nat) (s:By) (v:JV) (r:By),fG d s = .ok (v,r)→okV d v∧r <:+ s∧r.length<s.length∧(gE d v).length+r.length≤s.length:=by
 have base : ∀ (V:Option (By→Except Nat (JV×By))) (L:Option (JV→By)) (O:Option (JV→Prop)) (hLO:V=none∧L=none∧O=none ∨ ∃ W M Q,V=some W∧L=some M∧O=some Q ∧ ∀ s v r,W s = .ok (v,r)→Q v∧r <:+ s∧r.length<s.length∧(M v).length+r.length≤s.length) (s:By) (v:JV) (r:By),nL V s = .ok (v,r) →
   okB O v∧r <:+ s∧r.length<s.length∧(su L v).length+r.length≤s.length:=by
  intro V L O hLO s v r h
  unfold nL at h
  split at h
  ·cases h
  ·rename_i c t hs
   have q1:=dT s
   have q2:(c :: t) <:+ s:=hs ▸ av s
   rw [hs,List.length_cons] at q1
   have q3:t <:+ s:=(List.suffix_cons _ _).trans q2
   by_cases c1:c=123
   ·rw [if_pos c1] at h
    rcases hLO with ⟨rfl,rfl,rfl⟩ | ⟨W,M,Q,rfl,rfl,rfl,hW⟩
    ·cases h
    ·simp only at h
     split at h
     ·rename_i t' ht
      cases h
      have q4:=dT t
      have q5:(125 :: r) <:+ t:=ht ▸ av t
      rw [ht,List.length_cons] at q4
      exact ⟨⟨.nil,fun m hm=>by cases hm⟩,(List.suffix_cons _ _).trans (q5.trans q3),by omega,by simp [su,bV]; omega⟩
     ·cases ho:nz W ((skp t).length+1) [] (skp t) with
      | error e=>rw [ho] at h; cases h
      | ok x =>
       obtain ⟨l,r'⟩:=x
       rw [ho] at h
       cases h
       obtain ⟨o1,o2,o3,o4,o5⟩:=E6 W M Q hW _ [] _ l r ho .nil (fun m hm=>by cases hm)
       have q4:=dT t
       have q5:=av t
       refine ⟨⟨sr l o1,fun m hm=>o3 m ((gz l).mem_iff.1 hm)⟩,o4.trans (q5.trans q3),?_,?_⟩
       ·have:=o4.length_le
        omega
       ·have p1:=IU M (gz l)
        have p2:szM M []=0:=rfl
        cases hl:a8 l with
        | nil=>exact absurd ((gz l).symm.trans (by rw [hl])).eq_nil o2
        | cons m l' =>
         have p3:=CR (fun m:Me=>quo m.1 ++ 58 :: M m.2.1) m l'
         rw [hl] at p1
         unfold szM at p1 p2 o5
         show (123 :: (bV _ ++ [125])).length + _ ≤ _
         rw [List.length_cons,List.length_append,List.length_singleton]
         rw [← p1,p2] at o5
         have p4:=Nat.le_trans (Nat.add_le_add_right (Nat.le_of_eq p3) r.length) o5
         have p5 : ∀ J:Nat,J+1+r.length≤0+(skp t).length→J+1+1+r.length≤s.length:=fun J hJ=>by omega
         exact p5 _ p4
   rw [if_neg c1] at h
   by_cases c2:c=91
   ·rw [if_pos c2] at h
    rcases hLO with ⟨rfl,rfl,rfl⟩ | ⟨W,M,Q,rfl,rfl,rfl,hW⟩
    ·cases h
    ·simp only at h
     split at h
     ·rename_i t' ht
      cases h
      have q4:=dT t
      have q5:(93 :: r) <:+ t:=ht ▸ av t
      rw [ht,List.length_cons] at q4
      exact ⟨(fun m hm=>by cases hm),(List.suffix_cons _ _).trans (q5.trans q3),by omega,by simp [su,bV]; omega⟩
     ·cases ho:nM W ((skp t).length+1) (skp t) with
      | error e=>rw [ho] at h; cases h
      | ok x =>
       obtain ⟨l,r'⟩:=x
       rw [ho] at h
       cases h
       obtain ⟨o1,o2,o3⟩:=FL W M Q hW _ _ l r ho
       have q4:=dT t
       have q5:=av t
       refine ⟨o1,o2.trans (q5.trans q3),?_,?_⟩
       ·have:=o2.length_le
        omega
       ·show (91 :: (bV _ ++ [93])).length + _ ≤ _
        rw [List.length_cons,List.length_append,List.length_singleton]
        omega
   rw [if_neg c2] at h
   by_cases c3:c=34
   ·rw [if_pos c3] at h
    split at h
    ·cases h
    ·rename_i tt r' ht
     cases h
     obtain ⟨t1,t2,t3⟩:=sl t ht
     exact ⟨t1,t2.trans q3,by omega,by simp [su,quo]; omega⟩
   rw [if_neg c3] at h
   have word : ∀ (w:By) (k:Nat) (v:JV),w.length=k+1→(c :: t).take (k+1)=w→v = .null∨(∃ b,v = .bool b)→(su L v).length≤k+1→okB O v∧t.drop k <:+ s∧(t.drop k).length<s.length∧(su L v).length+(t.drop k).length≤s.length:=by
    intro w k v hw ht hv hl
    have:k≤t.length:=by
     have e:=congrArg List.length ht
     rw [hw] at e
     simp at e
     omega
    refine ⟨?_,(List.drop_suffix _ _).trans q3,by simp; omega,by simp; omega⟩
    rcases hv with rfl | ⟨b,rfl⟩ <;> exact trivial
   by_cases c4:(c :: t).take 4 = [110,117,108,108]
   ·rw [if_pos c4] at h
    cases h
    exact word _ 3 _ rfl c4 (.inl rfl) (Nat.le_refl _)
   rw [if_neg c4] at h
   by_cases c5:(c :: t).take 4 = [116,114,117,101]
   ·rw [if_pos c5] at h
    cases h
    exact word _ 3 _ rfl c5 (.inr ⟨_,rfl⟩) (Nat.le_refl _)
   rw [if_neg c5] at h
   by_cases c6:(c :: t).take 5 = [102,97,108,115,101]
   ·rw [if_pos c6] at h
    cases h
    exact word _ 4 _ rfl c6 (.inr ⟨_,rfl⟩) (Nat.le_refl _)
   rw [if_neg c6] at h
   split at h
   ·cases h
   ·rename_i n r' hn
    cases h
    obtain ⟨n1,n2,n3,n4⟩:=Jo hn
    simp only [List.length_cons] at n3 n4
    exact ⟨n1,n2.trans q2,by omega,by show (itoa n).length + _ ≤ _; omega⟩
 intro d
 induction d with
 | zero=>exact base none none none (.inl ⟨rfl,rfl,rfl⟩)
 | succ d ih=>exact base (some (fG d)) (some (gE d)) (some (okV d)) (.inr ⟨_,_,_,rfl,rfl,rfl,ih⟩)
end Go.Vm
