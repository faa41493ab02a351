import Derived.Test.YtihpjgcbmipdbaaGreatDoorPj4
import Derived.Lib.SplitLaws
import Derived.Lib.Join
import Derived.Lib.AtoiTie
import Derived.Test.YtihpjgcbmipdbaaGreatDoorFref22
import Derived.Test.YtihpjgcbmipdbaaGreatDoorPj2
/- Cutting at a byte, joining again, numbers and their texts: plainly. No condition. -/
namespace Go.Vm
open Go.Lib (decDigits itoa)
set_option linter.unusedVariables false
set_option linter.unusedSimpArgs false
/-! ### cut at each such byte -/
def gw (d:UInt8):By→List By
 | [] => [[]]
 | c :: s=>if c=d then [] :: gw d s else match gw d s with
  | p :: ps=>(c :: p) :: ps
  | [] => [[c]]
theorem CM (d:UInt8):gw d [] = [[]]:=rfl
theorem wW (d:UInt8) (s:By):gw d (d :: s) = [] :: gw d s:=by rw [gw,if_pos rfl]
theorem r6 {d c:UInt8} {s p:By} {ps:List By} (h:c≠d) (hs:gw d s=p :: ps):gw d (c :: s)=(c :: p) :: ps:=by rw [gw,if_neg h,hs]
theorem sk (d:UInt8) : ∀ s:By,gw d s ≠ []
 | []=>by simp [gw]
 | c :: s=>by
  rw [gw]
  split
  ·simp
  ·split <;> simp
theorem J2 (d:UInt8) (l:By):Lib.index (d :: l) [d]=((0:Nat):Int):=by rw [Lib.index]; simp [List.isPrefixOf]
theorem zL {d b:UInt8} {l:By} {j:Nat} (h:b≠d) (hj:Lib.index l [d]=(j:Int)):Lib.index (b :: l) [d]=((j+1:Nat):Int):=by
 have hp:([d]:By).isPrefixOf (b :: l)=false:=by simp [List.isPrefixOf,Ne.symm h]
 rw [Lib.index,hp,hj]
 have : ¬ ((j:Int) == -1)=true:=fun e=>by have:=beq_iff_eq.1 e; omega
 simp [this]
theorem r7 (d:UInt8) : ∀ s:By,Lib.split s [d]=gw d s
 | []=>by simp [Lib.split,Lib.count_miss,Lib.index,Lib.splitK,gw]
 | b :: l=>by
  have ih:=r7 d l
  unfold Lib.split at ih ⊢
  by_cases hb:b=d
  ·subst hb
   rw [Lib.count_cons_eq,wW,Nat.add_comm,Lib.splitK,J2]
   rw [if_neg (by simp)]
   simpa using ih
  ·rw [Lib.count_cons_ne b d l hb]
   by_cases hm:Lib.index l [d] = -1
   ·rw [Lib.count_miss hm] at ih ⊢
    rw [Lib.splitK] at ih ⊢
    exact (r6 hb ih.symm).symm
   ·have hge:=Lib.index_ge l [d]
    obtain ⟨j,hj⟩ : ∃ j:Nat,Lib.index l [d]=j:=⟨(Lib.index l [d]).toNat,by omega⟩
    have hc:=Lib.count_hit (s:=l) (sub := [d]) (by simp) hj
    generalize Lib.count (l.drop (j + [d].length)) [d]=k at hc
    rw [hc,Nat.add_comm,Lib.splitK,hj,if_neg (fun e=>by have:=beq_iff_eq.1 e; omega)] at ih
    rw [hc,Nat.add_comm,Lib.splitK,zL hb hj,if_neg (fun e=>by have:=beq_iff_eq.1 e; omega)]
    rw [r6 hb ih.symm]
    simp
theorem CU (d:UInt8) : ∀ s:By,(gw d s).length≤s.length+1 ∧ ∀ p∈gw d s,p.length≤s.length
 | []=>⟨Nat.le_refl _,fun p hp=>by
  rw [CM,List.mem_singleton] at hp
  subst hp
  exact Nat.le_refl _⟩
 | c :: s=>by
  obtain ⟨h1,h2⟩:=CU d s
  by_cases hc:c=d
  ·subst hc
   rw [wW]
   refine ⟨by rw [List.length_cons,List.length_cons]; omega,fun p hp => ?_⟩
   rcases List.mem_cons.1 hp with rfl | hp
   ·exact Nat.zero_le _
   ·have:=h2 p hp
    rw [List.length_cons]; omega
  ·cases hx:gw d s with
   | nil=>exact absurd hx (sk d s)
   | cons q qs =>
    rw [r6 hc hx]
    rw [hx] at h1 h2
    rw [List.length_cons] at h1
    refine ⟨by rw [List.length_cons,List.length_cons]; omega,fun p hp => ?_⟩
    rcases List.mem_cons.1 hp with rfl | hp
    ·have:=h2 q (List.mem_cons_self ..)
     rw [List.length_cons,List.length_cons]; omega
    ·have:=h2 p (List.mem_cons_of_mem _ hp)
     rw [List.length_cons]; omega
def gA (d:UInt8):List By→By
 | [] => []
 | [p]=>p
 | p :: q :: r=>p ++ d :: gA d (q :: r)
theorem jJ (d:UInt8) (p:By) {r:List By} (h:r ≠ []):gA d (p :: r)=p ++ d :: gA d r:=by
 cases r with
 | nil=>exact absurd rfl h
 | cons q r=>rfl
theorem yV (d:UInt8) : ∀ s:By,gA d (gw d s)=s
 | []=>rfl
 | c :: s=>by
  have ih:=yV d s
  by_cases hc:c=d
  ·subst hc
   rw [wW,jJ _ _ (sk c s),ih]
   rfl
  ·cases hx:gw d s with
   | nil=>exact absurd hx (sk d s)
   | cons q qs =>
    rw [r6 hc hx]
    rw [hx] at ih
    cases qs with
    | nil=>show c :: q = _; rw [← ih]; rfl
    | cons r rs =>
     show c :: (q ++ d :: gA d (r :: rs)) = _
     rw [← ih]
     rfl
theorem Jw {d:UInt8} {p:By} (hp : ∀ b∈p,b≠d) (s:By):gw d (p ++ d :: s)=p :: gw d s:=by
 induction p with
 | nil=>exact wW d s
 | cons c p ih=>exact r6 (hp c (List.mem_cons_self ..)) (ih fun b hb=>hp b (List.mem_cons_of_mem _ hb))
theorem HE {d:UInt8} {p:By} (hp : ∀ b∈p,b≠d):gw d p = [p]:=by
 induction p with
 | nil=>rfl
 | cons c p ih=>exact r6 (hp c (List.mem_cons_self ..)) (ih fun b hb=>hp b (List.mem_cons_of_mem _ hb))
theorem zb {d:UInt8} : ∀ l:List By,l ≠ []→(∀ p∈l, ∀ b∈p,b≠d)→gw d (gA d l)=l
 | [],h,_=>absurd rfl h
 | [p],_,h=>HE (h p (List.mem_cons_self ..))
 | p :: q :: r,_,h=>by
  rw [jJ d p (by simp),Jw (h p (List.mem_cons_self ..)),zb (q :: r) (by simp) fun x hx=>h x (List.mem_cons_of_mem _ hx)]
/-! ### cut once -/
theorem qw {d:UInt8} {p:By} (hp : ∀ b∈p,b≠d) (s:By):Lib.cut (p ++ d :: s) [d]=(p,s,true):=by
 have hi:Lib.index (p ++ d :: s) [d]=(p.length:Int):=by
  induction p with
  | nil=>exact J2 d s
  | cons c p ih=>exact zL (hp c (List.mem_cons_self ..)) (ih fun b hb=>hp b (List.mem_cons_of_mem _ hb))
 unfold Lib.cut
 rw [hi,if_pos (by omega)]
 simp
theorem EP {d:UInt8} {p:By} (hp : ∀ b∈p,b≠d):Lib.index p [d] = -1:=by
 refine Lib.index_none fun j hj => ?_
 cases h:Lib.occAt p [d] j with
 | false=>rfl
 | true =>
  have:=Lib.occAt_head (c:=d) (t := []) rfl h
  exact absurd rfl (hp d (List.mem_of_getElem? this))
theorem wx {d:UInt8} {p:By} (hp : ∀ b∈p,b≠d):Lib.cut p [d]=(p,[],false):=by
 unfold Lib.cut
 rw [EP hp,if_neg (by decide)]
theorem zp (d:UInt8) (s:By):(∃ p q,s=p ++ d :: q∧(∀ b∈p,b≠d)∧Lib.cut s [d]=(p,q,true))∨((∀ b∈s,b≠d)∧Lib.cut s [d]=(s,[],false)):=by
 by_cases h:d∈s
 ·obtain ⟨p,q,rfl,hp⟩:=List.append_of_mem h |> fun ⟨a,b,e⟩=>first_of s d h
  exact .inl ⟨p,q,rfl,hp,qw hp q⟩
 ·have hp : ∀ b∈s,b≠d:=fun b hb e=>h (e ▸ hb)
  exact .inr ⟨hp,wx hp⟩
where
 first_of : ∀ (s:By) (d:UInt8),d∈s → ∃ p q,s=p ++ d :: q ∧ ∀ b∈p,b≠d
  | c :: s,d,h=>by
   by_cases hc:c=d
   ·subst hc
    exact ⟨[],s,rfl,fun b hb=>by cases hb⟩
   ·obtain ⟨p,q,h1,h2⟩:=first_of s d (by
     rcases List.mem_cons.1 h with rfl | h
     ·exact absurd rfl hc
     ·exact h)
    refine ⟨c :: p,q,by rw [h1]; rfl,fun b hb => ?_⟩
    rcases List.mem_cons.1 hb with rfl | hb
    ·exact hc
    ·exact h2 b hb
/-! ### numbers -/
theorem tn (n:Nat):itoa (n:Int)=decDigits n:=by unfold itoa; rw [if_neg (by omega),Int.toNat_natCast]
theorem sg (n:Nat) : ∀ c∈itoa (n:Int),bj c=true:=by rw [tn]; exact (qB n).1
theorem FA (n:Nat):itoa (n:Int) ≠ []:=by
 rw [tn]
 obtain ⟨c,q,hc,_⟩:=Dk n
 rw [hc]; simp
end Go.Vm
/- Sorts of signs, plainly. No condition. -/
namespace Go.Vm
set_option linter.unusedVariables false
set_option linter.unusedSimpArgs false
theorem sY (F:Nat) (r a b c:Int):dS F (r,a,b,c)=some (decide (a≤r∧r≤b∧r≠c)):=by
 unfold dS
 simp only [sX,Option.bind_some,decide_eq_true_eq]
 repeat' split
 all_goals (rw [Option.some.injEq,Bool.eq_iff_iff]; simp only [Bool.not_eq_true',decide_eq_true_eq,decide_eq_false_iff_not,Bool.false_eq_true,true_iff,false_iff]; first | omega | (simp_all; done))
theorem Dl (F:Nat) (r:Int):dR F r=some (decide (0≤r∧(r<55296∨57343<r)∧r≤1114111)):=by
 unfold dR
 simp only [sX,Option.bind_some,decide_eq_true_eq,Bool.false_eq_true,if_false]
 repeat' split
 all_goals (rw [Option.some.injEq,Bool.eq_iff_iff]; simp only [Bool.not_eq_true',decide_eq_true_eq,decide_eq_false_iff_not,Bool.false_eq_true,true_iff,false_iff]; omega)
theorem EU (F:Nat) (r:Int):je F r=some (decide (r<32∨(127≤r∧r≤159)∨r=65533∨(55296≤r∧r≤57343)∨1114111<r)):=by
 unfold je
 simp only [sY,Dl,sX,Option.bind_some,decide_eq_true_eq,decide_eq_false_iff_not,Bool.true_eq_false,if_false]
 repeat' split
 all_goals (rw [Option.some.injEq,Bool.eq_iff_iff]; simp only [Bool.not_eq_true',decide_eq_true_eq,decide_eq_false_iff_not,Bool.false_eq_true,true_iff,false_iff]; omega)
theorem Kg (F:Nat) (r:Int):kO F r=some (decide (r=32∨r=160∨(8192≤r∧r≤8202)∨r=12288)):=by
 unfold kO
 simp only [sY,Dl,sX,Option.bind_some,decide_eq_true_eq,decide_eq_false_iff_not,Bool.true_eq_false,if_false]
 repeat' split
 all_goals (rw [Option.some.injEq,Bool.eq_iff_iff]; simp only [Bool.not_eq_true',decide_eq_true_eq,decide_eq_false_iff_not,Bool.false_eq_true,true_iff,false_iff]; omega)
theorem GF (F:Nat) (r:Int):jQ F r=some (decide ((65≤r∧r≤90)∨(97≤r∧r≤122)∨(192≤r∧r≤591∧r≠215∧r≠247)∨(913≤r∧r≤969∧r≠930))):=by
 unfold jQ
 simp only [sY,bI,bG,ite_self,Option.bind_some,Bool.if_true_right,Bool.if_true_left,Bool.if_false_left,Bool.if_false_right,Option.some.injEq]
 rw [Bool.eq_iff_iff]
 simp
 omega
def gq (n:Int):Int :=
 if n<32∨(127≤n∧n≤159)∨n=65533∨(55296≤n∧n≤57343)∨1114111<n then 0
 else if n=32∨n=160∨(8192≤n∧n≤8202)∨n=12288 then 1
 else if 48≤n∧n≤57 then 2
 else if (65≤n∧n≤90)∨(97≤n∧n≤122)∨(192≤n∧n≤591∧n≠215∧n≠247)∨(913≤n∧n≤969∧n≠930) then 3 else 4
theorem Bv (F:Nat) (r:Int):j8 F r=some (gq r):=by
 unfold j8 gq
 simp only [EU,Kg,sY,GF,Option.bind_some,decide_eq_true_eq]
 repeat' split
 all_goals first | rfl | omega
theorem np (F:Nat) (n:Int):dE F n=some (gq n):=by
 unfold dE gq
 simp only [bI,bG,ite_self,Option.bind_some,Option.some.injEq]
 simp only [Bool.if_true_right,Bool.if_true_left,Bool.if_false_left,Bool.if_false_right,Bool.and_eq_true,Bool.or_eq_true,Bool.not_eq_true',decide_eq_true_eq,decide_eq_false_iff_not]
 simp
 repeat' split
 all_goals first | rfl | omega
end Go.Vm
/- Phrases, plainly: names, gaps, pieces sign by sign and byte by byte. No condition. -/
namespace Go.Vm
open Go.Lib (decodeL decodeN decodeL_N decode_N decodeN_shape decodeL_le)
set_option linter.unusedVariables false
set_option linter.unusedSimpArgs false
def Br (c:UInt8):Bool:=(decide (97≤c.toNat) && decide (c.toNat≤122)) || (decide (48≤c.toNat) && decide (c.toNat≤57))
def nmP (s:By):Bool:=s.all Br && decide (1≤s.length) && decide (s.length≤12)
def gC (s:By):Nat:=match s with
 | _ :: b :: r=>if b=37∨b=98∨b=107∨b=109∨b=112 then 2 else if b=123 then
   (if (r.takeWhile (fun c=>c != 125)).length<r.length∧nmP (r.takeWhile (fun c=>c != 125))=true then (r.takeWhile (fun c=>c != 125)).length+3 else 0) else 0
 | _=>0
theorem Ll (s:By):gC s≤s.length:=by
 unfold gC
 split
 ·rename_i a b r
  split
  ·simp
  ·split
   ·split
    ·rename_i h
     simp only [List.length_cons]
     omega
    ·omega
   ·omega
 ·omega
theorem pG (s:By):gC s≠1:=by
 unfold gC
 split
 ·split
  ·decide
  ·split
   ·split <;> omega
   ·decide
 ·decide
def HZ (b:UInt8):Prop:=33≤b.toNat∧b.toNat≤126
theorem Hu (a:By) (x:UInt8) (t:By):(a ++ x :: t).take (a.length+1)=a ++ [x]:=by
 rw [List.take_append,List.take_of_length_le (by omega),show a.length+1 - a.length=1 by omega]
 rfl
theorem EB (r:By) : ∀ b∈(37 :: r:By).take (gC (37 :: r)),HZ b:=by
 unfold gC
 split
 ·rename_i a c q heq
  injection heq with h1 h2
  subst h1; subst h2
  split
  ·rename_i hc
   intro b hb
   simp only [List.take_succ_cons,List.take_zero] at hb
   rcases List.mem_cons.1 hb with rfl | hb
   ·exact ⟨by decide,by decide⟩
   ·rw [List.mem_singleton] at hb
    subst hb
    rcases hc with rfl | rfl | rfl | rfl | rfl <;> exact ⟨by decide,by decide⟩
  ·split
   ·rename_i hb123
    subst hb123
    split
    ·rename_i hk
     obtain ⟨hk,hnm⟩:=hk
     intro b hb
     have hdec:q=q.takeWhile (fun c=>c != 125) ++ q.dropWhile (fun c=>c != 125):=(List.takeWhile_append_dropWhile ..).symm
     have hne:q.dropWhile (fun c=>c != 125) ≠ []:=by
      intro hh
      rw [hh,List.append_nil] at hdec
      have:=congrArg List.length hdec
      omega
     obtain ⟨x,t,hx⟩:=List.exists_cons_of_ne_nil hne
     have hx125:x=125:=by
      have:=List.head_dropWhile_not (fun c=>c != 125) hne
      simp only [hx,List.head_cons] at this
      simpa using this
     have htk:(37 :: 123 :: q:By).take ((q.takeWhile (fun c=>c != 125)).length+3)=37 :: 123 :: (q.takeWhile (fun c=>c != 125) ++ [x]):=by
      rw [show (q.takeWhile (fun c=>c != 125)).length+3=((q.takeWhile (fun c=>c != 125)).length+1)+1+1 by omega,List.take_succ_cons,List.take_succ_cons]
      congr 2
      exact (congrArg (List.take _) (hdec.trans (by rw [hx]))).trans (Hu _ _ _)
     rw [htk] at hb
     unfold nmP at hnm
     simp only [Bool.and_eq_true] at hnm
     rcases List.mem_cons.1 hb with rfl | hb
     ·exact ⟨by decide,by decide⟩
     rcases List.mem_cons.1 hb with rfl | hb
     ·exact ⟨by decide,by decide⟩
     rcases List.mem_append.1 hb with hb | hb
     ·have:=List.all_eq_true.1 hnm.1.1 b hb
      simp [Br] at this
      unfold HZ
      omega
     ·rw [List.mem_singleton] at hb
      subst hb
      subst hx125
      exact ⟨by decide,by decide⟩
    ·intro b hb; rw [List.take_zero] at hb; cases hb
   ·intro b hb; rw [List.take_zero] at hb; cases hb
 ·intro b hb; rw [List.take_zero] at hb; cases hb
end Go.Vm
/- Phrases, plainly: pieces sign by sign are the pieces byte by byte. No condition. -/
namespace Go.Vm
open Go.Lib (decodeL decodeN decodeL_N decode_N decodeN_shape decodeL_le)
set_option linter.unusedVariables false
set_option linter.unusedSimpArgs false
abbrev Pc:=Bool×B8×Unit
def CZ:Nat→By→Option (List Pc)
 | 0,_=>some []
 | n+1,s=>match s with
  | []=>some []
  | c :: r=>if gq ((decodeL s).1:Int)=0 then none else if c=37 then (if gC s=0 then none else (CZ n (s.drop (gC s))).map fun l=>(true,s.take (gC s),()) :: l)
   else (CZ n (s.drop (decodeL s).2)).map fun l=>(false,s.take (decodeL s).2,()) :: l
def BU:Nat→By→Option (List Pc)
 | 0,_=>some []
 | n+1,s=>match s with
  | []=>some []
  | c :: r=>if c=37 then (if gC s=0 then none else (BU n (s.drop (gC s))).map fun l=>(true,s.take (gC s),()) :: l)
   else (BU n r).map fun l=>(false,[c],()) :: l
def yz (s:By):Option (List Pc):=CZ s.length s
def qQ (s:By):Option (List Pc):=BU s.length s
def oF (s:By):Bool:=(de s).all fun x=>decide (gq x.1≠0)
def zA (l:List Pc):List By:=(l.filter (·.1)).map (·.2.1)
def zg (val:By→By) (l:List Pc):By:=l.flatMap fun p=>if p.1=true then val p.2.1 else p.2.1
theorem qF : ∀ (n m:Nat) (s:By),s.length≤n→s.length≤m→CZ n s=CZ m s
 | 0,0,s,h,h'=>rfl
 | 0,m+1,s,h,h'=>by
  obtain rfl:s = []:=List.length_eq_zero_iff.1 (by omega)
  rfl
 | n+1,0,s,h,h'=>by
  obtain rfl:s = []:=List.length_eq_zero_iff.1 (by omega)
  rfl
 | n+1,m+1,s,h,h'=>by
  cases s with
  | nil=>rfl
  | cons c r =>
   have hp:=bQ (c :: r)
   simp only [List.length_cons] at h h'
   unfold CZ
   simp only
   split
   ·rfl
   split
   ·split
    ·rfl
    ·rename_i hg
     have h1:=pG (c :: r)
     rw [qF n m ((c :: r).drop (gC (c :: r))) (by simp; omega) (by simp; omega)]
   ·rw [qF n m ((c :: r).drop (decodeL (c :: r)).2) (by simp; omega) (by simp; omega)]
theorem tQ : ∀ (n m:Nat) (s:By),s.length≤n→s.length≤m→BU n s=BU m s
 | 0,0,s,h,h'=>rfl
 | 0,m+1,s,h,h'=>by
  obtain rfl:s = []:=List.length_eq_zero_iff.1 (by omega)
  rfl
 | n+1,0,s,h,h'=>by
  obtain rfl:s = []:=List.length_eq_zero_iff.1 (by omega)
  rfl
 | n+1,m+1,s,h,h'=>by
  cases s with
  | nil=>rfl
  | cons c r =>
   simp only [List.length_cons] at h h'
   unfold BU
   simp only
   split
   ·split
    ·rfl
    ·rename_i hg
     have h1:=pG (c :: r)
     rw [tQ n m ((c :: r).drop (gC (c :: r))) (by simp; omega) (by simp; omega)]
   ·rw [tQ n m r (by omega) (by omega)]
theorem Ck:qQ []=some []:=rfl
theorem HQ (c:UInt8) (r:By):yz (c :: r)=if gq ((decodeL (c :: r)).1:Int)=0 then none else if c=37 then (if gC (c :: r)=0 then none else (yz ((c :: r).drop (gC (c :: r)))).map fun l=>(true,(c :: r).take (gC (c :: r)),()) :: l)
   else (yz ((c :: r).drop (decodeL (c :: r)).2)).map fun l=>(false,(c :: r).take (decodeL (c :: r)).2,()) :: l:=by
 have hp:=bQ (c :: r)
 have h1:=pG (c :: r)
 show CZ (r.length+1) (c :: r) = _
 unfold CZ yz
 simp only
 split
 ·rfl
 split
 ·split
  ·rfl
  ·rename_i hg
   rw [qF r.length _ ((c :: r).drop (gC (c :: r))) (by simp; omega) (Nat.le_refl _)]
 ·rw [qF r.length _ ((c :: r).drop (decodeL (c :: r)).2) (by simp; omega) (Nat.le_refl _)]
theorem um (c:UInt8) (r:By):qQ (c :: r)=if c=37 then (if gC (c :: r)=0 then none else (qQ ((c :: r).drop (gC (c :: r)))).map fun l=>(true,(c :: r).take (gC (c :: r)),()) :: l)
   else (qQ r).map fun l=>(false,[c],()) :: l:=by
 have h1:=pG (c :: r)
 show BU (r.length+1) (c :: r) = _
 unfold BU qQ
 simp only
 split
 ·split
  ·rfl
  ·rename_i hg
   rw [tQ r.length _ ((c :: r).drop (gC (c :: r))) (by simp; omega) (Nat.le_refl _)]
 ·rfl
/-! ### signs of one byte -/
theorem AW (c:UInt8) (h:c.toNat<128) (r:By):decodeL (c :: r)=(c.toNat,1):=by
 have:=sw c.toNat (by unfold okR; omega) r
 have e:cH c.toNat = [c]:=by unfold cH; rw [if_pos h]; simp
 rw [e] at this
 exact this
theorem Hn (c:UInt8) (h:c.toNat<128) (r:By):de (c :: r)=((c.toNat:Int),[c]) :: de r:=by
 rw [jG (by simp),AW c h]
 rfl
theorem xw:oF []=true:=by unfold oF; rw [gO]; rfl
theorem qE {s:By} (h:s ≠ []):oF s=(decide (gq ((decodeL s).1:Int)≠0) && oF (s.drop (decodeL s).2)):=by
 unfold oF
 rw [jG h]
 rfl
theorem Fa {b:UInt8} (h:HZ b):gq (b.toNat:Int)≠0:=by
 obtain ⟨h1,h2⟩:=h
 unfold gq
 rw [if_neg (by omega)]
 repeat' split
 all_goals decide
theorem w7 (n:Nat) : ∀ s:By,(∀ b∈s.take n,HZ b)→oF s=oF (s.drop n):=by
 induction n with
 | zero=>intro s h; rfl
 | succ n ih =>
  intro s h
  cases s with
  | nil=>rfl
  | cons c r =>
   have hc:HZ c:=h c (by simp)
   have hlt:c.toNat<128:=by have:=hc.2; omega
   rw [qE (by simp),AW c hlt,List.drop_succ_cons]
   simp only [List.drop_succ_cons,List.drop_zero]
   rw [decide_eq_true (Fa hc),Bool.true_and]
   exact ih r fun b hb=>h b (by simp only [List.take_succ_cons]; exact List.mem_cons_of_mem _ hb)
theorem Hg (c:UInt8) (r:By) (hs:gq ((decodeL (c :: r)).1:Int)≠0) (hc:c≠37) : ∀ b∈(c :: r).take (decodeL (c :: r)).2,b≠37:=by
 by_cases h:c.toNat<128
 ·rw [AW c h]
  intro b hb
  simp only [List.take_succ_cons,List.take_zero,List.mem_singleton] at hb
  subst hb
  exact hc
 ·have hb : ¬ ((decodeL (c :: r)).1=65533∧(decodeL (c :: r)).2=1):=by
   rintro ⟨h1,_⟩
   rw [h1] at hs
   exact hs (by decide)
  rw [gM (c :: r) (by simp) hb]
  have hok:=qu (c :: r)
  have hbig : ¬ (decodeL (c :: r)).1<128:=by
   intro hlt
   have ht:=gM (c :: r) (by simp) hb
   have e:cH (decodeL (c :: r)).1 = [UInt8.ofNat (decodeL (c :: r)).1]:=by unfold cH; rw [if_pos hlt]
   rw [e] at ht
   have hp:=bQ (c :: r)
   obtain ⟨k,hk⟩ : ∃ k,(decodeL (c :: r)).2=k+1:=⟨(decodeL (c :: r)).2 - 1,by omega⟩
   rw [hk,List.take_succ_cons] at ht
   injection ht with h1 _
   rw [h1] at h
   simp at h
   omega
  generalize (decodeL (c :: r)).1=D at hok hbig
  obtain ⟨o1,o2⟩:=hok
  have ne : ∀ k:Nat,128≤k→k<256→UInt8.ofNat k≠37:=by
   intro k h1 h2 hh
   have:=congrArg UInt8.toNat hh
   have e:(UInt8.ofNat k).toNat=k:=by simp; omega
   rw [e] at this
   have:(37:UInt8).toNat=37:=rfl
   omega
  intro b hb
  unfold cH at hb
  rw [if_neg hbig] at hb
  split at hb
  ·simp only [List.mem_cons,List.not_mem_nil,or_false] at hb
   rcases hb with rfl | rfl <;> exact ne _ (by omega) (by omega)
  split at hb
  ·simp only [List.mem_cons,List.not_mem_nil,or_false] at hb
   rcases hb with rfl | rfl | rfl <;> exact ne _ (by omega) (by omega)
  ·simp only [List.mem_cons,List.not_mem_nil,or_false] at hb
   rcases hb with rfl | rfl | rfl | rfl <;> exact ne _ (by omega) (by omega)
theorem Kq (n:Nat) : ∀ s:By,n≤s.length→(∀ b∈s.take n,b≠37)→qQ s=(qQ (s.drop n)).map fun l=>((s.take n).map fun b=>((false,[b],()):Pc)) ++ l:=by
 induction n with
 | zero =>
  intro s h hb
  rw [List.take_zero,List.drop_zero]
  cases qQ s <;> rfl
 | succ n ih =>
  intro s h hb
  cases s with
  | nil=>simp at h
  | cons c r =>
   rw [um,if_neg (hb c (by simp)),ih r (by simpa using h) (fun b hb'=>hb b (by simp only [List.take_succ_cons]; exact List.mem_cons_of_mem _ hb'))]
   rw [List.drop_succ_cons,List.take_succ_cons]
   cases qQ (r.drop n) <;> rfl
theorem EE (val:By→By) (l:By) (m:List Pc):zg val ((l.map fun b=>((false,[b],()):Pc)) ++ m)=l ++ zg val m:=by
 unfold zg
 rw [List.flatMap_append]
 congr 1
 induction l with
 | nil=>rfl
 | cons c l ih =>
  rw [List.map_cons,List.flatMap_cons,ih]
  rfl
theorem DA (l:By) (m:List Pc):zA ((l.map fun b=>((false,[b],()):Pc)) ++ m)=zA m:=by
 unfold zA
 rw [List.filter_append]
 have:(l.map fun b=>((false,[b],()):Pc)).filter (·.1) = []:=by
  rw [List.filter_eq_nil_iff]
  intro x hx
  obtain ⟨b,_,rfl⟩:=List.mem_map.1 hx
  exact Bool.false_ne_true
 rw [this]
 rfl
theorem AO : ∀ (n:Nat) (s:By),s.length≤n→match yz s with
  | some l=>oF s=true ∧ ∃ m,qQ s=some m∧zA l=zA m ∧ ∀ val,zg val l=zg val m
  | none=>oF s=false∨qQ s=none
 | 0,s,h=>by
  obtain rfl:s = []:=List.length_eq_zero_iff.1 (by omega)
  exact ⟨xw,[],rfl,rfl,fun _=>rfl⟩
 | n+1,s,h=>by
  cases s with
  | nil=>exact ⟨xw,[],rfl,rfl,fun _=>rfl⟩
  | cons c r =>
   have hp:=bQ (c :: r)
   have hle:=decodeL_le (c :: r) (by simp)
   simp only [List.length_cons] at h
   rw [HQ]
   by_cases hs:gq ((decodeL (c :: r)).1:Int)=0
   ·rw [if_pos hs]
    refine .inl ?_
    rw [qE (by simp),decide_eq_false (fun hh=>hh hs),Bool.false_and]
   rw [if_neg hs]
   by_cases hc:c=37
   ·subst hc
    rw [if_pos rfl,um,if_pos rfl]
    by_cases hg:gC (37 :: r)=0
    ·rw [if_pos hg,if_pos hg]
     exact .inr rfl
    ·rw [if_neg hg,if_neg hg]
     have ih:=AO n ((37 :: r:By).drop (gC (37 :: r))) (by rw [List.length_drop,List.length_cons]; omega)
     rw [w7 _ _ (EB r)]
     cases hx:yz ((37 :: r:By).drop (gC (37 :: r))) with
     | none =>
      rw [hx] at ih
      refine ih.imp id fun h => ?_
      rw [h]
      rfl
     | some l =>
      rw [hx] at ih
      obtain ⟨i1,m,i2,i3,i4⟩:=ih
      refine ⟨i1,_,by rw [i2]; rfl,?_,fun val => ?_⟩
      ·unfold zA at i3 ⊢
       simp only [List.filter_cons,if_true,List.map_cons]
       rw [i3]
      ·unfold zg at i4 ⊢
       rw [List.flatMap_cons,List.flatMap_cons,i4 val]
   ·rw [if_neg hc]
    have ih:=AO n ((c :: r).drop (decodeL (c :: r)).2) (by rw [List.length_drop,List.length_cons]; omega)
    have hsk:=Kq (decodeL (c :: r)).2 (c :: r) hle (Hg c r hs hc)
    rw [qE (by simp),decide_eq_true hs,Bool.true_and]
    cases hx:yz ((c :: r).drop (decodeL (c :: r)).2) with
    | none =>
     rw [hx] at ih
     refine ih.imp id fun h => ?_
     rw [hsk,h]
     rfl
    | some l =>
     rw [hx] at ih
     obtain ⟨i1,m,i2,i3,i4⟩:=ih
     refine ⟨i1,_,by rw [hsk,i2]; rfl,?_,fun val => ?_⟩
     ·rw [DA, ← i3]
      rfl
     ·rw [EE, ← i4 val]
      rfl
end Go.Vm
