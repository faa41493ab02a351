import Derived.Test.YtihpjgcbmipdbaaGreatDoorPj4
import Derived.Lib.SplitLaws
import Derived.Lib.Join
import Derived.Lib.AtoiTie
import Derived.Test.YtihpjgcbmipdbaaGreatDoorPk1
import Derived.Test.YtihpjgcbmipdbaaGreatDoorPj2
import Derived.Test.YtihpjgcbmipdbaaGreatDoorFbld
import Derived.Test.YtihpjgcbmipdbaaGreatDoorPu2
/- Cutting at a byte, joining again, numbers and their texts: plainly. No condition. -/
namespace Go.Vm
open Go.Lib (decDigits itoa)
set_option linter.unusedVariables false
set_option linter.unusedSimpArgs false
/-! ### cut at each such byte -/
end Go.Vm
/- Phrases, plainly: names, gaps, pieces sign by sign and byte by byte. No condition. -/
namespace Go.Vm
open Go.Lib (decodeL decodeN decodeL_N decode_N decodeN_shape decodeL_le)
set_option linter.unusedVariables false
set_option linter.unusedSimpArgs false
def HL (c:UInt8):Bool:=(decide (97≤c.toNat) && decide (c.toNat≤122)) || (decide (48≤c.toNat) && decide (c.toNat≤57))
def nmP (s:By):Bool:=s.all HL && decide (1≤s.length) && decide (s.length≤12)
def eA (s:By):Nat:=match s with
 | _ :: b :: r=>if b=37∨b=98∨b=107∨b=109∨b=112 then 2 else if b=123 then
   (if (r.takeWhile (fun c=>c != 125)).length<r.length∧nmP (r.takeWhile (fun c=>c != 125))=true then (r.takeWhile (fun c=>c != 125)).length+3 else 0) else 0
 | _=>0
theorem Eb (s:By):eA s≤s.length:=by
 unfold eA
 split
 ·rename_i a b r
  split
  ·simp
  ·split
   ·split
    ·rename_i h
     simp only [List.length_cons]
     omega
    ·omega
   ·omega
 ·omega
theorem uQ (s:By):eA s≠1:=by
 unfold eA
 split
 ·split
  ·decide
  ·split
   ·split <;> omega
   ·decide
 ·decide
def JB (b:UInt8):Prop:=33≤b.toNat∧b.toNat≤126
theorem EP (a:By) (x:UInt8) (t:By):(a ++ x :: t).take (a.length+1)=a ++ [x]:=by
 rw [List.take_append,List.take_of_length_le (by omega),show a.length+1 - a.length=1 by omega]
 rfl
theorem BH (r:By) : ∀ b∈(37 :: r:By).take (eA (37 :: r)),JB b:=by
 unfold eA
 split
 ·rename_i a c q heq
  injection heq with h1 h2
  subst h1; subst h2
  split
  ·rename_i hc
   intro b hb
   simp only [List.take_succ_cons,List.take_zero] at hb
   rcases List.mem_cons.1 hb with rfl | hb
   ·exact ⟨by decide,by decide⟩
   ·rw [List.mem_singleton] at hb
    subst hb
    rcases hc with rfl | rfl | rfl | rfl | rfl <;> exact ⟨by decide,by decide⟩
  ·split
   ·rename_i hb123
    subst hb123
    split
    ·rename_i hk
     obtain ⟨hk,hnm⟩:=hk
     intro b hb
     have hdec:q=q.takeWhile (fun c=>c != 125) ++ q.dropWhile (fun c=>c != 125):=(List.takeWhile_append_dropWhile ..).symm
     have hne:q.dropWhile (fun c=>c != 125) ≠ []:=by
      intro hh
      rw [hh,List.append_nil] at hdec
      have:=congrArg List.length hdec
      omega
     obtain ⟨x,t,hx⟩:=List.exists_cons_of_ne_nil hne
     have hx125:x=125:=by
      have:=List.head_dropWhile_not (fun c=>c != 125) hne
      simp only [hx,List.head_cons] at this
      simpa using this
     have htk:(37 :: 123 :: q:By).take ((q.takeWhile (fun c=>c != 125)).length+3)=37 :: 123 :: (q.takeWhile (fun c=>c != 125) ++ [x]):=by
      rw [show (q.takeWhile (fun c=>c != 125)).length+3=((q.takeWhile (fun c=>c != 125)).length+1)+1+1 by omega,List.take_succ_cons,List.take_succ_cons]
      congr 2
      exact (congrArg (List.take _) (hdec.trans (by rw [hx]))).trans (EP _ _ _)
     rw [htk] at hb
     unfold nmP at hnm
     simp only [Bool.and_eq_true] at hnm
     rcases List.mem_cons.1 hb with rfl | hb
     ·exact ⟨by decide,by decide⟩
     rcases List.mem_cons.1 hb with rfl | hb
     ·exact ⟨by decide,by decide⟩
     rcases List.mem_append.1 hb with hb | hb
     ·have:=List.all_eq_true.1 hnm.1.1 b hb
      simp [HL] at this
      unfold JB
      omega
     ·rw [List.mem_singleton] at hb
      subst hb
      subst hx125
      exact ⟨by decide,by decide⟩
    ·intro b hb; rw [List.take_zero] at hb; cases hb
   ·intro b hb; rw [List.take_zero] at hb; cases hb
 ·intro b hb; rw [List.take_zero] at hb; cases hb
end Go.Vm
/- Phrases, plainly: pieces sign by sign are the pieces byte by byte. No condition. -/
namespace Go.Vm
open Go.Lib (decodeL decodeN decodeL_N decode_N decodeN_shape decodeL_le)
set_option linter.unusedVariables false
set_option linter.unusedSimpArgs false
abbrev Pc:=Bool×B8×Unit
def AF:Nat→By→Option (List Pc)
 | 0,_=>some []
 | n+1,s=>match s with
  | []=>some []
  | c :: r=>if cR ((decodeL s).1:Int)=0 then none else if c=37 then (if eA s=0 then none else (AF n (s.drop (eA s))).map fun l=>(true,s.take (eA s),()) :: l)
   else (AF n (s.drop (decodeL s).2)).map fun l=>(false,s.take (decodeL s).2,()) :: l
def oB (s:By):Option (List Pc):=AF s.length s
def rj (val:By→By) (l:List Pc):By:=l.flatMap fun p=>if p.1=true then val p.2.1 else p.2.1
theorem oU : ∀ (n m:Nat) (s:By),s.length≤n→s.length≤m→AF n s=AF m s
 | 0,0,s,h,h'=>rfl
 | 0,m+1,s,h,h'=>by
  obtain rfl:s = []:=List.length_eq_zero_iff.1 (by omega)
  rfl
 | n+1,0,s,h,h'=>by
  obtain rfl:s = []:=List.length_eq_zero_iff.1 (by omega)
  rfl
 | n+1,m+1,s,h,h'=>by
  cases s with
  | nil=>rfl
  | cons c r =>
   have hp:=bg (c :: r)
   simp only [List.length_cons] at h h'
   unfold AF
   simp only
   split
   ·rfl
   split
   ·split
    ·rfl
    ·rename_i hg
     have h1:=uQ (c :: r)
     rw [oU n m ((c :: r).drop (eA (c :: r))) (by simp; omega) (by simp; omega)]
   ·rw [oU n m ((c :: r).drop (decodeL (c :: r)).2) (by simp; omega) (by simp; omega)]
theorem qm:oB []=some []:=rfl
theorem w9 (c:UInt8) (r:By):oB (c :: r)=if cR ((decodeL (c :: r)).1:Int)=0 then none else if c=37 then (if eA (c :: r)=0 then none else (oB ((c :: r).drop (eA (c :: r)))).map fun l=>(true,(c :: r).take (eA (c :: r)),()) :: l)
   else (oB ((c :: r).drop (decodeL (c :: r)).2)).map fun l=>(false,(c :: r).take (decodeL (c :: r)).2,()) :: l:=by
 have hp:=bg (c :: r)
 have h1:=uQ (c :: r)
 show AF (r.length+1) (c :: r) = _
 unfold AF oB
 simp only
 split
 ·rfl
 split
 ·split
  ·rfl
  ·rename_i hg
   rw [oU r.length _ ((c :: r).drop (eA (c :: r))) (by simp; omega) (Nat.le_refl _)]
 ·rw [oU r.length _ ((c :: r).drop (decodeL (c :: r)).2) (by simp; omega) (Nat.le_refl _)]
theorem xS (c:UInt8) (h:c.toNat<128) (r:By):decodeL (c :: r)=(c.toNat,1):=by
 have:=tP c.toNat (by unfold okR; omega) r
 have e:bF c.toNat = [c]:=by unfold bF; rw [if_pos h]; simp
 rw [e] at this
 exact this
theorem Fk (c:UInt8) (h:c.toNat<128) (r:By):bt (c :: r)=((c.toNat:Int),[c]) :: bt r:=by
 rw [fB (by simp),xS c h]
 rfl
end Go.Vm
/- A sign written by strings.Builder, plainly. No condition but on lengths. -/
namespace Go.Vm
open Go.Lib (decodeL decodeN decodeL_N decode_N decodeN_shape decodeL_le)
set_option linter.unusedVariables false
set_option linter.unusedSimpArgs false
set_option maxHeartbeats 1000000 in
theorem append_eq (F c:Nat) (h:okR c) (l:B8) (hl:l.length≤1000000000000):bO F (l,(c:Int))=some (l ++ nG (c:Int)):=by
 rw [om c h]
 obtain ⟨h1,h2⟩:=h
 have u:IntKind.u32.wrap (c:Int)=(c:Int):=JG _ (by omega) (by omega)
 have s6:shr .i32 (c:Int) 6=((c / 64:Nat):Int):=xY c 6 (by omega)
 have s12:shr .i32 (c:Int) 12=((c / 4096:Nat):Int):=xY c 12 (by omega)
 have s18:shr .i32 (c:Int) 18=((c / 262144:Nat):Int):=xY c 18 (by omega)
 have L1:(l.length+1) * 1≤140737488355328:=by omega
 have L2:(l.length+2) * 1≤140737488355328:=by omega
 have L3:(l.length+3) * 1≤140737488355328:=by omega
 have L4:(l.length+4) * 1≤140737488355328:=by omega
 unfold bO cu bF
 simp only [u,s6,s12,s18,JE,List.length_cons,List.length_nil,Nat.zero_add,Nat.reduceAdd,L1,L2,L3,L4,decide_true,if_true,Option.bind_some]
 by_cases c1:c<128
 ·have:(c:Int)≤127:=by omega
  simp only [c1,this,if_true,decide_true]
  rw [yp _ (by omega) (by omega)]
  simp
 have n1 : ¬ (c:Int)≤127:=by omega
 by_cases c2:c<2048
 ·have:(c:Int)≤2047:=by omega
  simp only [c1,n1,c2,this,if_true,if_false,decide_true,decide_false,Bool.false_eq_true,Option.bind_some]
  rw [yp _ (by omega) (by omega),Ma _ (by omega)]
  simp only [Int.toNat_natCast]
 have n2 : ¬ (c:Int)≤2047:=by omega
 by_cases c3:c<65536
 ·have w:(c:Int)≤65535:=by omega
  have:(c:Int)<55296∨(57343:Int)<c:=by omega
  have hx:ior .u8 224 (IntKind.u8.wrap ((c / 4096:Nat):Int))=((224+c / 4096:Nat):Int):=by rw [yp _ (by omega) (by omega),LJ _ (by omega)]
  by_cases c4:(c:Int)<55296
  ·simp only [c1,n1,c2,n2,c3,c4,if_true,if_false,decide_true,decide_false,Bool.false_eq_true,Option.bind_some,Int.toNat_natCast,L3,hx,JE,s6,s12,s18]
  ·have c5:(57343:Int)<c:=by omega
   simp only [c1,n1,c2,n2,c3,c4,c5,w,if_true,if_false,decide_true,decide_false,Bool.false_eq_true,Option.bind_some,Int.toNat_natCast,L3,hx,JE,s6,s12,s18]
 have n3 : ¬ (c:Int)≤65535:=by omega
 have c4 : ¬ (c:Int)<55296:=by omega
 have c5:(57343:Int)<c:=by omega
 have c6:(65535:Int)<c:=by omega
 have c7:(c:Int)≤1114111:=by omega
 have hx:ior .u8 240 (IntKind.u8.wrap ((c / 262144:Nat):Int))=((240+c / 262144:Nat):Int):=by rw [yp _ (by omega) (by omega),Mn _ (by omega)]
 simp only [c1,n1,c2,n2,c3,n3,c4,c5,c6,c7,if_true,if_false,decide_true,decide_false,Bool.false_eq_true,Option.bind_some,Int.toNat_natCast,L4,hx,JE,s6,s12,s18]
theorem zW (F c:Nat) (h:okR c) (l:B8) (hl:l.length≤1000000000000) : ∃ n,aX F (((),l,()),(c:Int))=some ((n,()),(),l ++ nG (c:Int),()):=by
 unfold aX aO
 simp only [Option.bind_some,append_eq F c h l hl]
 exact ⟨_,rfl⟩
end Go.Vm
/- JSON, plainly: values. What is printed is read. No condition. -/
namespace Go.Vm
open Go.Lib (itoa)
set_option linter.unusedVariables false
set_option linter.unusedSimpArgs false
def okB (O:Option (JV→Prop)):JV→Prop
 | .nil=>False
 | .null=>True
 | .bool _=>True
 | .int n=>okN n
 | .str t=>OkT t
 | .list l=>match O with
  | none=>False
  | some O => ∀ v∈l,O v
 | .obj l=>match O with
  | none=>False
  | some O=>Ris l ∧ ∀ m∈l,OkT m.1∧O m.2.1
def okV:Nat→JV→Prop
 | 0=>okB none
 | d+1=>okB (some (okV d))
def Head (c:UInt8):Prop:=qA c=false∧c≠93∧c≠125∧c≠44
theorem AW {c:UInt8} (h:c=45∨cz c=true):Head c∧c≠123∧c≠91∧c≠34∧c≠110∧c≠116∧c≠102:=by
 rcases h with rfl | h
 ·exact ⟨⟨rfl,by decide,by decide,by decide⟩,by decide,by decide,by decide,by decide,by decide,by decide⟩
 ·have hb:qA c=false:=by
   have q : ∀ k:UInt8,cz k=false→(c == k)=false:=by
    intro k hk
    rw [beq_eq_false_iff_ne]
    rintro rfl
    rw [h] at hk; cases hk
   unfold qA
   rw [q 32 (by decide),q 9 (by decide),q 10 (by decide),q 13 (by decide)]
   rfl
  refine ⟨⟨hb,?_,?_,?_⟩,?_,?_,?_,?_,?_,?_⟩ <;> (rintro rfl; exact absurd h (by decide))
theorem Gc : ∀ (d:Nat) (v:JV),okV d v → ∃ c q,dw d v=c :: q∧Head c:=by
 intro d v h
 have hd:Head 110∧Head 116∧Head 102∧Head 34∧Head 91∧Head 123:=by refine ⟨?_,?_,?_,?_,?_,?_⟩ <;> exact ⟨rfl,by decide,by decide,by decide⟩
 obtain ⟨h1,h2,h3,h4,h5,h6⟩:=hd
 cases v with
 | nil=>cases d <;> exact h.elim
 | null=>cases d <;> exact ⟨_,_,rfl,h1⟩
 | bool b=>cases d <;> cases b <;> first | exact ⟨_,_,rfl,h2⟩ | exact ⟨_,_,rfl,h3⟩
 | int n =>
  obtain ⟨c,q,e,hc⟩:=Ej n
  cases d <;> exact ⟨c,q,e,(AW hc).1⟩
 | str t=>cases d <;> exact ⟨_,_,rfl,h4⟩
 | list l=>cases d with
  | zero=>exact h.elim
  | succ d=>exact ⟨_,_,rfl,h5⟩
 | obj l=>cases d with
  | zero=>exact h.elim
  | succ d=>exact ⟨_,_,rfl,h6⟩
theorem LD {c:UInt8} (h:qA c=false) (q:By):skp (c :: q)=c :: q:=by unfold skp; rw [List.dropWhile_cons_of_neg (by rw [h]; decide)]
theorem Jc {c:UInt8} (h:qA c=true) (q:By):skp (c :: q)=skp q:=by unfold skp; rw [List.dropWhile_cons_of_pos h]
theorem ui {α:Type} (f:α→By) : ∀ l:List α,(∀ v∈l,f v ≠ [])→l.length≤(dQ (l.map f)).length
 | [],_=>by simp
 | [v],h=>by have:=List.length_pos_iff.2 (h v (by simp)); simp [dQ]; omega
 | v :: w :: l,h=>by
  have:=ui f (w :: l) (fun v hv=>h v (List.mem_cons_of_mem _ hv))
  simp only [List.map_cons,dQ,List.length_append,List.length_cons] at this ⊢
  omega
end Go.Vm
/- JSON, plainly: what is read may be, and is printed in no more bytes. No condition. -/
namespace Go.Vm
open Go.Lib (itoa)
set_option linter.unusedVariables false
set_option linter.unusedSimpArgs false
theorem G2 (V:By→Except Nat (JV×By)) (f:JV→By) (O:JV→Prop) (hV : ∀ s v r,V s = .ok (v,r)→O v∧r <:+ s∧r.length<s.length∧(f v).length+r.length≤s.length) :
  ∀ (n:Nat) (s:By) (l:List JV) (r:By),uN V n s = .ok (l,r)→(∀ v∈l,O v)∧r <:+ s∧(dQ (l.map f)).length+1+r.length≤s.length
 | 0,s,l,r,h=>by cases h
 | n+1,s,l,r,h=>by
  unfold uN at h
  cases hv:V s with
  | error e=>rw [hv] at h; cases h
  | ok x =>
   obtain ⟨v,r1⟩:=x
   rw [hv] at h
   obtain ⟨o1,o2,o3,o4⟩:=hV s v r1 hv
   simp only at h
   split at h
   ·rename_i r2 hs
    have q1:=eM r1
    have q2:(44 :: r2) <:+ r1:=hs ▸ aA r1
    rw [hs,List.length_cons] at q1
    cases hl:uN V n r2 with
    | error e=>rw [hl] at h; cases h
    | ok y =>
     obtain ⟨l',r'⟩:=y
     rw [hl] at h
     cases h
     obtain ⟨i1,i2,i3⟩:=G2 V f O hV n r2 l' r hl
     refine ⟨fun w hw => ?_,(i2.trans (List.suffix_cons _ _)).trans (q2.trans o2),?_⟩
     ·rcases List.mem_cons.1 hw with rfl | hw
      ·exact o1
      ·exact i1 w hw
     ·cases l' with
      | nil=>simp [dQ] at i3 ⊢; omega
      | cons w l'=>simp only [List.map_cons,dQ,List.length_append,List.length_cons] at i3 ⊢; omega
   ·rename_i r2 hs
    cases h
    have q1:=eM r1
    have q2:(93 :: r) <:+ r1:=hs ▸ aA r1
    rw [hs,List.length_cons] at q1
    refine ⟨fun w hw => ?_,(List.suffix_cons _ _).trans (q2.trans o2),?_⟩
    ·rw [List.mem_singleton] at hw; subst hw; exact o1
    ·simp [dQ]; omega
   ·cases h
def szM (f:JV→By) (l:List Me):Nat:=(l.map fun m=>(quo m.1 ++ 58 :: f m.2.1).length+1).sum
theorem D4 {α:Type} (f:α→By) : ∀ (a:α) (l:List α),(dQ ((a :: l).map f)).length+1=((a :: l).map fun x=>(f x).length+1).sum
 | a,[]=>by simp [dQ]
 | a,b :: l=>by
  have:=D4 f b l
  simp only [List.map_cons,dQ,List.length_append,List.length_cons,List.sum_cons] at this ⊢
  omega
theorem GJ (V:By→Except Nat (JV×By)) (f:JV→By) (O:JV→Prop) (hV : ∀ s v r,V s = .ok (v,r)→O v∧r <:+ s∧r.length<s.length∧(f v).length+r.length≤s.length) :
  ∀ (n:Nat) (acc:List Me) (s:By) (l:List Me) (r:By),yx V n acc s = .ok (l,r)→Uni acc→(∀ m∈acc,OkT m.1∧O m.2.1)→Uni l∧l ≠ []∧(∀ m∈l,OkT m.1∧O m.2.1)∧r <:+ s∧szM f l+r.length≤szM f acc+s.length
 | 0,acc,s,l,r,h,_,_=>by cases h
 | n+1,acc,s,l,r,h,hu,ha=>by
  unfold yx at h
  split at h
  ·rename_i r0 h0
   have q1:=eM s
   have q2:(34 :: r0) <:+ s:=h0 ▸ aA s
   rw [h0,List.length_cons] at q1
   split at h
   ·cases h
   ·rename_i name r1 h1
    obtain ⟨t1,t2,t3⟩:=BO r0 h1
    split at h
    ·cases h
    ·rename_i hnew
     split at h
     ·rename_i r2 h2
      have q3:=eM r1
      have q4:(58 :: r2) <:+ r1:=h2 ▸ aA r1
      rw [h2,List.length_cons] at q3
      cases hv:V r2 with
      | error e=>rw [hv] at h; cases h
      | ok x =>
       obtain ⟨v,r3⟩:=x
       rw [hv] at h
       obtain ⟨o1,o2,o3,o4⟩:=hV r2 v r3 hv
       have hu':Uni (acc ++ [(name,v,())]):=by
        refine List.pairwise_append.2 ⟨hu,List.pairwise_singleton _ _,fun x hx y hy => ?_⟩
        rw [List.mem_singleton] at hy
        subst hy
        intro e
        apply hnew
        rw [List.any_eq_true]
        exact ⟨x,hx,by simpa using e⟩
       have ha' : ∀ m∈acc ++ [(name,v,())],OkT m.1∧O m.2.1:=by
        intro m hm
        rcases List.mem_append.1 hm with hm | hm
        ·exact ha m hm
        ·rw [List.mem_singleton] at hm; subst hm; exact ⟨t1,o1⟩
       have hz:szM f (acc ++ [(name,v,())])=szM f acc+((jK name).length+(f v).length+4):=by
        unfold szM quo
        simp
        omega
       have hsuf:r3 <:+ s:=o2.trans ((List.suffix_cons _ _).trans (q4.trans (t2.trans ((List.suffix_cons _ _).trans q2))))
       simp only at h
       split at h
       ·rename_i r4 h4
        have q5:=eM r3
        have q6:(44 :: r4) <:+ r3:=h4 ▸ aA r3
        rw [h4,List.length_cons] at q5
        obtain ⟨i1,i2,i3,i4,i5⟩:=GJ V f O hV n _ r4 l r h hu' ha'
        exact ⟨i1,i2,i3,i4.trans ((List.suffix_cons _ _).trans (q6.trans hsuf)),by rw [hz] at i5; omega⟩
       ·rename_i r4 h4
        cases h
        have q5:=eM r3
        have q6:(125 :: r) <:+ r3:=h4 ▸ aA r3
        rw [h4,List.length_cons] at q5
        exact ⟨hu',by simp,ha',(List.suffix_cons _ _).trans (q6.trans hsuf),by rw [hz]; omega⟩
       ·cases h
     ·cases h
  ·cases h
theorem Ju (f:JV→By) {l l':List Me} (h:l.Perm l'):szM f l=szM f l':=(h.map _).sum_nat
theorem y9 : ∀ (d:Nat) (s:By) (v:JV) (r:By),nz d s = .ok (v,r)→okV d v∧r <:+ s∧r.length<s.length∧(dw d v).length+r.length≤s.length:=by
 have base : ∀ (V:Option (By→Except Nat (JV×By))) (L:Option (JV→By)) (O:Option (JV→Prop)) (hLO:V=none∧L=none∧O=none ∨ ∃ W M Q,V=some W∧L=some M∧O=some Q ∧ ∀ s v r,W s = .ok (v,r)→Q v∧r <:+ s∧r.length<s.length∧(M v).length+r.length≤s.length) (s:By) (v:JV) (r:By),Et V s = .ok (v,r) →
   okB O v∧r <:+ s∧r.length<s.length∧(AU L v).length+r.length≤s.length:=by
  intro V L O hLO s v r h
  unfold Et at h
  split at h
  ·cases h
  ·rename_i c t hs
   have q1:=eM s
   have q2:(c :: t) <:+ s:=hs ▸ aA s
   rw [hs,List.length_cons] at q1
   have q3:t <:+ s:=(List.suffix_cons _ _).trans q2
   by_cases c1:c=123
   ·rw [if_pos c1] at h
    rcases hLO with ⟨rfl,rfl,rfl⟩ | ⟨W,M,Q,rfl,rfl,rfl,hW⟩
    ·cases h
    ·simp only at h
     split at h
     ·rename_i t' ht
      cases h
      have q4:=eM t
      have q5:(125 :: r) <:+ t:=ht ▸ aA t
      rw [ht,List.length_cons] at q4
      exact ⟨⟨.nil,fun m hm=>by cases hm⟩,(List.suffix_cons _ _).trans (q5.trans q3),by omega,by simp [AU,dQ]; omega⟩
     ·cases ho:yx W ((skp t).length+1) [] (skp t) with
      | error e=>rw [ho] at h; cases h
      | ok x =>
       obtain ⟨l,r'⟩:=x
       rw [ho] at h
       cases h
       obtain ⟨o1,o2,o3,o4,o5⟩:=GJ W M Q hW _ [] _ l r ho .nil (fun m hm=>by cases hm)
       have q4:=eM t
       have q5:=aA t
       refine ⟨⟨xG l o1,fun m hm=>o3 m ((kG l).mem_iff.1 hm)⟩,o4.trans (q5.trans q3),?_,?_⟩
       ·have:=o4.length_le
        omega
       ·have p1:=Ju M (kG l)
        have p2:szM M []=0:=rfl
        cases hl:jl l with
        | nil=>exact absurd ((kG l).symm.trans (by rw [hl])).eq_nil o2
        | cons m l' =>
         have p3:=D4 (fun m:Me=>quo m.1 ++ 58 :: M m.2.1) m l'
         rw [hl] at p1
         unfold szM at p1 p2 o5
         show (123 :: (dQ _ ++ [125])).length + _ ≤ _
         rw [List.length_cons,List.length_append,List.length_singleton]
         rw [← p1,p2] at o5
         have p4:=Nat.le_trans (Nat.add_le_add_right (Nat.le_of_eq p3) r.length) o5
         have p5 : ∀ J:Nat,J+1+r.length≤0+(skp t).length→J+1+1+r.length≤s.length:=fun J hJ=>by omega
         exact p5 _ p4
   rw [if_neg c1] at h
   by_cases c2:c=91
   ·rw [if_pos c2] at h
    rcases hLO with ⟨rfl,rfl,rfl⟩ | ⟨W,M,Q,rfl,rfl,rfl,hW⟩
    ·cases h
    ·simp only at h
     split at h
     ·rename_i t' ht
      cases h
      have q4:=eM t
      have q5:(93 :: r) <:+ t:=ht ▸ aA t
      rw [ht,List.length_cons] at q4
      exact ⟨(fun m hm=>by cases hm),(List.suffix_cons _ _).trans (q5.trans q3),by omega,by simp [AU,dQ]; omega⟩
     ·cases ho:uN W ((skp t).length+1) (skp t) with
      | error e=>rw [ho] at h; cases h
      | ok x =>
       obtain ⟨l,r'⟩:=x
       rw [ho] at h
       cases h
       obtain ⟨o1,o2,o3⟩:=G2 W M Q hW _ _ l r ho
       have q4:=eM t
       have q5:=aA t
       refine ⟨o1,o2.trans (q5.trans q3),?_,?_⟩
       ·have:=o2.length_le
        omega
       ·show (91 :: (dQ _ ++ [93])).length + _ ≤ _
        rw [List.length_cons,List.length_append,List.length_singleton]
        omega
   rw [if_neg c2] at h
   by_cases c3:c=34
   ·rw [if_pos c3] at h
    split at h
    ·cases h
    ·rename_i tt r' ht
     cases h
     obtain ⟨t1,t2,t3⟩:=BO t ht
     exact ⟨t1,t2.trans q3,by omega,by simp [AU,quo]; omega⟩
   rw [if_neg c3] at h
   have word : ∀ (w:By) (k:Nat) (v:JV),w.length=k+1→(c :: t).take (k+1)=w→v = .null∨(∃ b,v = .bool b)→(AU L v).length≤k+1→okB O v∧t.drop k <:+ s∧(t.drop k).length<s.length∧(AU L v).length+(t.drop k).length≤s.length:=by
    intro w k v hw ht hv hl
    have:k≤t.length:=by
     have e:=congrArg List.length ht
     rw [hw] at e
     simp at e
     omega
    refine ⟨?_,(List.drop_suffix _ _).trans q3,by simp; omega,by simp; omega⟩
    rcases hv with rfl | ⟨b,rfl⟩ <;> exact trivial
   by_cases c4:(c :: t).take 4 = [110,117,108,108]
   ·rw [if_pos c4] at h
    cases h
    exact word _ 3 _ rfl c4 (.inl rfl) (Nat.le_refl _)
   rw [if_neg c4] at h
   by_cases c5:(c :: t).take 4 = [116,114,117,101]
   ·rw [if_pos c5] at h
    cases h
    exact word _ 3 _ rfl c5 (.inr ⟨_,rfl⟩) (Nat.le_refl _)
   rw [if_neg c5] at h
   by_cases c6:(c :: t).take 5 = [102,97,108,115,101]
   ·rw [if_pos c6] at h
    cases h
    exact word _ 4 _ rfl c6 (.inr ⟨_,rfl⟩) (Nat.le_refl _)
   rw [if_neg c6] at h
   split at h
   ·cases h
   ·rename_i n r' hn
    cases h
    obtain ⟨n1,n2,n3,n4⟩:=LA hn
    simp only [List.length_cons] at n3 n4
    exact ⟨n1,n2.trans q2,by omega,by show (itoa n).length + _ ≤ _; omega⟩
 intro d
 induction d with
 | zero=>exact base none none none (.inl ⟨rfl,rfl,rfl⟩)
 | succ d ih=>exact base (some (nz d)) (some (dw d)) (some (okV d)) (.inr ⟨_,_,_,rfl,rfl,rfl,ih⟩)
end Go.Vm
