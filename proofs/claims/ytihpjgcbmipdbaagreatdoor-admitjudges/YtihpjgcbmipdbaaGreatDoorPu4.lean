import Derived.Test.YtihpjgcbmipdbaaGreatDoorPj4
import Derived.Lib.SplitLaws
import Derived.Lib.Join
import Derived.Lib.AtoiTie
import Derived.Test.YtihpjgcbmipdbaaGreatDoorFref4
set_option linter.unusedVariables false
set_option linter.unusedSimpArgs false
namespace Go.Vm
open Go.Lib (decDigits itoa)
def iV (d:UInt8):By→List By
 | [] => [[]]
 | c :: s=>if c=d then [] :: iV d s else match iV d s with
  | p :: ps=>(c :: p) :: ps
  | [] => [[c]]
theorem Hl (d:UInt8):iV d [] = [[]]:=rfl
theorem Ac (d:UInt8) (s:By):iV d (d :: s) = [] :: iV d s:=by rw [iV,if_pos rfl]
theorem ve {d c:UInt8} {s p:By} {ps:List By} (h:c≠d) (hs:iV d s=p :: ps):iV d (c :: s)=(c :: p) :: ps:=by rw [iV,if_neg h,hs]
theorem zU (d:UInt8) : ∀ s:By,iV d s ≠ []
 | []=>by simp [iV]
 | c :: s=>by
  rw [iV];split
  ·simp
  ·split <;> simp
theorem NL (d:UInt8) (l:By):Lib.index (d :: l) [d]=((0:Nat):Int):=by rw [Lib.index]; simp [List.isPrefixOf]
theorem Dv {d b:UInt8} {l:By} {j:Nat} (h:b≠d) (hj:Lib.index l [d]=(j:Int)):Lib.index (b :: l) [d]=((j+1:Nat):Int):=by
 have hp:([d]:By).isPrefixOf (b :: l)=false:=by simp [List.isPrefixOf,Ne.symm h]
 rw [Lib.index,hp,hj];have : ¬ ((j:Int) == -1)=true:=fun e=>by have:=beq_iff_eq.1 e; omega
 simp [this]
theorem uZ (d:UInt8) : ∀ s:By,Lib.split s [d]=iV d s
 | []=>by simp [Lib.split,Lib.count_miss,Lib.index,Lib.splitK,iV]
 | b :: l=>by
  have ih:=uZ d l;unfold Lib.split at ih ⊢
  by_cases hb:b=d
  ·subst hb
   rw [Lib.count_cons_eq,Ac,Nat.add_comm,Lib.splitK,NL];rw [if_neg (by simp)];simpa using ih
  ·rw [Lib.count_cons_ne b d l hb]
   by_cases hm:Lib.index l [d] = -1
   ·rw [Lib.count_miss hm] at ih ⊢
    rw [Lib.splitK] at ih ⊢
    exact (ve hb ih.symm).symm
   ·have Tx:=Lib.index_ge l [d]
    obtain ⟨j,hj⟩ : ∃ j:Nat,Lib.index l [d]=j:=⟨(Lib.index l [d]).toNat,by omega⟩
    have hc:=Lib.count_hit (s:=l) (sub := [d]) (by simp) hj;generalize Lib.count (l.drop (j + [d].length)) [d]=k at hc;rw [hc,Nat.add_comm,Lib.splitK,hj,if_neg (fun e=>by have:=beq_iff_eq.1 e; omega)] at ih;rw [hc,Nat.add_comm,Lib.splitK,Dv hb hj,if_neg (fun e=>by have:=beq_iff_eq.1 e; omega)];rw [ve hb ih.symm];simp
theorem GW (d:UInt8) : ∀ s:By,(iV d s).length≤s.length+1 ∧ ∀ p∈iV d s,p.length≤s.length
 | []=>⟨Nat.le_refl _,fun p hp=>by
  rw [Hl,List.mem_singleton] at hp;subst hp;exact Nat.le_refl _⟩
 | c :: s=>by
  obtain ⟨h1,h2⟩:=GW d s;by_cases hc:c=d
  ·subst hc
   rw [Ac];refine ⟨by rw [abp,abp]; omega,fun p hp => ?_⟩;rcases List.mem_cons.1 hp with rfl | hp
   ·exact Nat.zero_le _
   ·have:=h2 p hp
    rw [abp]; omega
  ·cases hx:iV d s with
   | nil=>exact absurd hx (zU d s)
   | cons q qs =>
    rw [ve hc hx];rw [hx] at h1 h2;rw [abp] at h1;refine ⟨by rw [abp,abp]; omega,fun p hp => ?_⟩;rcases List.mem_cons.1 hp with rfl | hp
    ·have:=h2 q (List.mem_cons_self ..)
     rw [abp,abp]; omega
    ·have:=h2 p (List.mem_cons_of_mem _ hp)
     rw [abp]; omega
def ji (d:UInt8):List By→By
 | [] => []
 | [p]=>p
 | p :: q :: r=>p ++ d :: ji d (q :: r)
theorem ll (d:UInt8) (p:By) {r:List By} (h:r ≠ []):ji d (p :: r)=p ++ d :: ji d r:=by
 cases r with
 | nil=>exact absurd rfl h
 | cons q r=>rfl
theorem C2 (d:UInt8) : ∀ s:By,ji d (iV d s)=s
 | []=>rfl
 | c :: s=>by
  have ih:=C2 d s;by_cases hc:c=d
  ·subst hc
   rw [Ac,ll _ _ (zU c s),ih];rfl
  ·cases hx:iV d s with
   | nil=>exact absurd hx (zU d s)
   | cons q qs =>
    rw [ve hc hx];rw [hx] at ih;cases qs with
    | nil=>show c :: q = _; rw [← ih]; rfl
    | cons r rs =>
     show c :: (q ++ d :: ji d (r :: rs)) = _;rw [← ih];rfl
theorem N9 {d:UInt8} {p:By} (hp : ∀ b∈p,b≠d) (s:By):iV d (p ++ d :: s)=p :: iV d s:=by
 induction p with
 | nil=>exact Ac d s
 | cons c p ih=>exact ve (hp c (List.mem_cons_self ..)) (ih fun b hb=>hp b (List.mem_cons_of_mem _ hb))
theorem LU {d:UInt8} {p:By} (hp : ∀ b∈p,b≠d):iV d p = [p]:=by
 induction p with
 | nil=>rfl
 | cons c p ih=>exact ve (hp c (List.mem_cons_self ..)) (ih fun b hb=>hp b (List.mem_cons_of_mem _ hb))
theorem Dd {d:UInt8} : ∀ l:List By,l ≠ []→(∀ p∈l, ∀ b∈p,b≠d)→iV d (ji d l)=l
 | [],h,_=>absurd rfl h
 | [p],_,h=>LU (h p (List.mem_cons_self ..))
 | p :: q :: r,_,h=>by
  rw [ll d p (by simp),N9 (h p (List.mem_cons_self ..)),Dd (q :: r) (by simp) fun x hx=>h x (List.mem_cons_of_mem _ hx)]
theorem tL {d:UInt8} {p:By} (hp : ∀ b∈p,b≠d) (s:By):Lib.cut (p ++ d :: s) [d]=(p,s,true):=by
 have hi:Lib.index (p ++ d :: s) [d]=(p.length:Int):=by
  induction p with
  | nil=>exact NL d s
  | cons c p ih=>exact Dv (hp c (List.mem_cons_self ..)) (ih fun b hb=>hp b (List.mem_cons_of_mem _ hb))
 unfold Lib.cut;rw [hi,if_pos (by omega)];simp
theorem Iw {d:UInt8} {p:By} (hp : ∀ b∈p,b≠d):Lib.index p [d] = -1:=by
 refine Lib.index_none fun j hj => ?_
 cases h:Lib.occAt p [d] j with
 | false=>rfl
 | true =>
  have:=Lib.occAt_head (c:=d) (t := []) rfl h;exact absurd rfl (hp d (List.mem_of_getElem? this))
theorem Bw {d:UInt8} {p:By} (hp : ∀ b∈p,b≠d):Lib.cut p [d]=(p,[],false):=by
 unfold Lib.cut;rw [Iw hp,if_neg (by decide)]
theorem CN (d:UInt8) (s:By):(∃ p q,s=p ++ d :: q∧(∀ b∈p,b≠d)∧Lib.cut s [d]=(p,q,true))∨((∀ b∈s,b≠d)∧Lib.cut s [d]=(s,[],false)):=by
 by_cases h:d∈s
 ·obtain ⟨p,q,rfl,hp⟩:=List.append_of_mem h |> fun ⟨a,b,e⟩=>first_of s d h
  exact .inl ⟨p,q,rfl,hp,tL hp q⟩
 ·have hp : ∀ b∈s,b≠d:=fun b hb e=>h (e ▸ hb)
  exact .inr ⟨hp,Bw hp⟩
where
 first_of : ∀ (s:By) (d:UInt8),d∈s → ∃ p q,s=p ++ d :: q ∧ ∀ b∈p,b≠d
  | c :: s,d,h=>by
   by_cases hc:c=d
   ·subst hc
    exact ⟨[],s,rfl,fun b hb=>by cases hb⟩
   ·obtain ⟨p,q,h1,h2⟩:=first_of s d (by
     rcases List.mem_cons.1 h with rfl | h
     ·exact absurd rfl hc
     ·exact h)
    refine ⟨c :: p,q,by rw [h1]; rfl,fun b hb => ?_⟩;rcases List.mem_cons.1 hb with rfl | hb
    ·exact hc
    ·exact h2 b hb
theorem vK (n:Nat):itoa (n:Int)=decDigits n:=by unfold itoa; rw [if_neg (by omega),Int.toNat_natCast]
theorem wB (n:Nat) : ∀ c∈itoa (n:Int),ba c=true:=by rw [vK]; exact (lA n).1
theorem Kk (n:Nat):itoa (n:Int) ≠ []:=by
 rw [vK];obtain ⟨c,q,hc,_⟩:=wK n;rw [hc]; simp
end Go.Vm
namespace Go.Vm
theorem xl (F:Nat) (r a b c:Int):fc F (r,a,b,c)=some (decide (a≤r∧r≤b∧r≠c)):=by
 unfold fc;simp only [xj,abo,abn]
 repeat' split
 all_goals (rw [Option.some.injEq,Bool.eq_iff_iff]; simp only [Bool.not_eq_true',abn,decide_eq_false_iff_not,abq,true_iff,false_iff]; first | omega | (simp_all; done))
theorem Hm (F:Nat) (r:Int):fm F r=some (decide (0≤r∧(r<55296∨57343<r)∧r≤1114111)):=by
 unfold fm;simp only [xj,abo,abn,abq,if_false]
 repeat' split
 all_goals (rw [Option.some.injEq,Bool.eq_iff_iff]; simp only [Bool.not_eq_true',abn,decide_eq_false_iff_not,abq,true_iff,false_iff]; omega)
theorem Jh (F:Nat) (r:Int):kH F r=some (decide (r<32∨(127≤r∧r≤159)∨r=65533∨(55296≤r∧r≤57343)∨1114111<r)):=by
 unfold kH;simp only [xl,Hm,xj,abo,abn,decide_eq_false_iff_not,Bool.true_eq_false,if_false]
 repeat' split
 all_goals (rw [Option.some.injEq,Bool.eq_iff_iff]; simp only [Bool.not_eq_true',abn,decide_eq_false_iff_not,abq,true_iff,false_iff]; omega)
theorem PQ (F:Nat) (r:Int):mJ F r=some (decide (r=32∨r=160∨(8192≤r∧r≤8202)∨r=12288)):=by
 unfold mJ;simp only [xl,Hm,xj,abo,abn,decide_eq_false_iff_not,Bool.true_eq_false,if_false]
 repeat' split
 all_goals (rw [Option.some.injEq,Bool.eq_iff_iff]; simp only [Bool.not_eq_true',abn,decide_eq_false_iff_not,abq,true_iff,false_iff]; omega)
theorem Ld (F:Nat) (r:Int):lH F r=some (decide ((65≤r∧r≤90)∨(97≤r∧r≤122)∨(192≤r∧r≤591∧r≠215∧r≠247)∨(913≤r∧r≤969∧r≠930))):=by
 unfold lH;simp only [xl,cC,cB,ite_self,abo,Bool.if_true_right,Bool.if_true_left,Bool.if_false_left,Bool.if_false_right,Option.some.injEq];rw [Bool.eq_iff_iff];simp;omega
def il (n:Int):Int :=
 if n<32∨(127≤n∧n≤159)∨n=65533∨(55296≤n∧n≤57343)∨1114111<n then 0
 else if n=32∨n=160∨(8192≤n∧n≤8202)∨n=12288 then 1
 else if 48≤n∧n≤57 then 2
 else if (65≤n∧n≤90)∨(97≤n∧n≤122)∨(192≤n∧n≤591∧n≠215∧n≠247)∨(913≤n∧n≤969∧n≠930) then 3 else 4
theorem Fw (F:Nat) (r:Int):mc F r=some (il r):=by
 unfold mc il;simp only [Jh,PQ,xl,Ld,abo,abn]
 repeat' split
 all_goals first | rfl | omega
theorem nW (F:Nat) (n:Int):dD F n=some (il n):=by
 unfold dD il;simp only [cC,cB,ite_self,abo,Option.some.injEq];simp only [Bool.if_true_right,Bool.if_true_left,Bool.if_false_left,Bool.if_false_right,abv,Bool.or_eq_true,Bool.not_eq_true',abn,decide_eq_false_iff_not];simp
 repeat' split
 all_goals first | rfl | omega
end Go.Vm
namespace Go.Vm
open Go.Lib (decodeL decodeN decodeL_N decode_N decodeN_shape decodeL_le)
def FC (c:UInt8):Bool:=(decide (97≤c.toNat) && decide (c.toNat≤122)) || (decide (48≤c.toNat) && decide (c.toNat≤57))
def nmP (s:By):Bool:=s.all FC && decide (1≤s.length) && decide (s.length≤12)
def jd (s:By):Nat:=match s with
 | _ :: b :: r=>if b=37∨b=98∨b=107∨b=109∨b=112 then 2 else if b=123 then
   (if (r.takeWhile (fun c=>c != 125)).length<r.length∧nmP (r.takeWhile (fun c=>c != 125))=true then (r.takeWhile (fun c=>c != 125)).length+3 else 0) else 0
 | _=>0
theorem Ss (s:By):jd s≤s.length:=by
 unfold jd;split
 ·rename_i a b r
  split
  ·simp
  ·split
   ·split
    ·rename_i h
     simp only [abp];omega
    ·omega
   ·omega
 ·omega
theorem sk (s:By):jd s≠1:=by
 unfold jd;split
 ·split
  ·decide
  ·split
   ·split <;> omega
   ·decide
 ·decide
def Mj (b:UInt8):Prop:=33≤b.toNat∧b.toNat≤126
theorem LA (a:By) (x:UInt8) (t:By):(a ++ x :: t).take (a.length+1)=a ++ [x]:=by
 rw [List.take_append,List.take_of_length_le (by omega),show a.length+1 - a.length=1 by omega];rfl
theorem IH (r:By) : ∀ b∈(37 :: r:By).take (jd (37 :: r)),Mj b:=by
 unfold jd;split
 ·rename_i a c q heq
  injection heq with h1 h2
  subst h1; subst h2;split
  ·rename_i hc
   intro b hb;simp only [List.take_succ_cons,List.take_zero] at hb;rcases List.mem_cons.1 hb with rfl | hb
   ·exact ⟨by decide,by decide⟩
   ·rw [List.mem_singleton] at hb
    subst hb;rcases hc with rfl | rfl | rfl | rfl | rfl <;> exact ⟨by decide,by decide⟩
  ·split
   ·rename_i Xf
    subst Xf;split
    ·rename_i hk
     obtain ⟨hk,yk⟩:=hk;intro b hb;have HQ:q=q.takeWhile (fun c=>c != 125) ++ q.dropWhile (fun c=>c != 125):=(List.takeWhile_append_dropWhile ..).symm;have ib:q.dropWhile (fun c=>c != 125) ≠ []:=by
      intro hh;rw [hh,List.append_nil] at HQ;have:=congrArg List.length HQ;omega
     obtain ⟨x,t,hx⟩:=List.exists_cons_of_ne_nil ib;have Xg:x=125:=by
      have:=List.head_dropWhile_not (fun c=>c != 125) ib;simp only [hx,List.head_cons] at this;simpa using this
     have Cz:(37 :: 123 :: q:By).take ((q.takeWhile (fun c=>c != 125)).length+3)=37 :: 123 :: (q.takeWhile (fun c=>c != 125) ++ [x]):=by
      rw [show (q.takeWhile (fun c=>c != 125)).length+3=((q.takeWhile (fun c=>c != 125)).length+1)+1+1 by omega,List.take_succ_cons,List.take_succ_cons];congr 2;exact (congrArg (List.take _) (HQ.trans (by rw [hx]))).trans (LA _ _ _)
     rw [Cz] at hb;unfold nmP at yk;simp only [abv] at yk;rcases List.mem_cons.1 hb with rfl | hb
     ·exact ⟨by decide,by decide⟩
     rcases List.mem_cons.1 hb with rfl | hb
     ·exact ⟨by decide,by decide⟩
     rcases List.mem_append.1 hb with hb | hb
     ·have:=List.all_eq_true.1 yk.1.1 b hb
      simp [FC] at this;unfold Mj;omega
     ·rw [List.mem_singleton] at hb
      subst hb;subst Xg;exact ⟨by decide,by decide⟩
    ·intro b hb; rw [List.take_zero] at hb; cases hb
   ·intro b hb; rw [List.take_zero] at hb; cases hb
 ·intro b hb; rw [List.take_zero] at hb; cases hb
end Go.Vm
namespace Go.Vm
open Go.Lib (decodeL decodeN decodeL_N decode_N decodeN_shape decodeL_le)
abbrev Pc:=Bool×B8×Unit
def GK:Nat→By→Option (List Pc)
 | 0,_=>some []
 | n+1,s=>match s with
  | []=>some []
  | c :: r=>if il ((decodeL s).1:Int)=0 then none else if c=37 then (if jd s=0 then none else (GK n (s.drop (jd s))).map fun l=>(true,s.take (jd s),()) :: l)
   else (GK n (s.drop (decodeL s).2)).map fun l=>(false,s.take (decodeL s).2,()) :: l
def Gg:Nat→By→Option (List Pc)
 | 0,_=>some []
 | n+1,s=>match s with
  | []=>some []
  | c :: r=>if c=37 then (if jd s=0 then none else (Gg n (s.drop (jd s))).map fun l=>(true,s.take (jd s),()) :: l)
   else (Gg n r).map fun l=>(false,[c],()) :: l
def Cg (s:By):Option (List Pc):=GK s.length s
def ud (s:By):Option (List Pc):=Gg s.length s
def rT (s:By):Bool:=(dZ s).all fun x=>decide (il x.1≠0)
def DL (l:List Pc):List By:=(l.filter (·.1)).map (·.2.1)
def C7 (val:By→By) (l:List Pc):By:=l.flatMap fun p=>if p.1=true then val p.2.1 else p.2.1
theorem tV : ∀ (n m:Nat) (s:By),s.length≤n→s.length≤m→GK n s=GK m s
 | 0,0,s,h,h'=>rfl
 | 0,m+1,s,h,h'=>by
  obtain rfl:s = []:=List.length_eq_zero_iff.1 (by omega);rfl
 | n+1,0,s,h,h'=>by
  obtain rfl:s = []:=List.length_eq_zero_iff.1 (by omega);rfl
 | n+1,m+1,s,h,h'=>by
  cases s with
  | nil=>rfl
  | cons c r =>
   have hp:=cS (c :: r);simp only [abp] at h h';unfold GK;simp only;split
   ·rfl
   split
   ·split
    ·rfl
    ·rename_i hg
     have h1:=sk (c :: r);rw [tV n m ((c :: r).drop (jd (c :: r))) (by simp; omega) (by simp; omega)]
   ·rw [tV n m ((c :: r).drop (decodeL (c :: r)).2) (by simp; omega) (by simp; omega)]
theorem xC : ∀ (n m:Nat) (s:By),s.length≤n→s.length≤m→Gg n s=Gg m s
 | 0,0,s,h,h'=>rfl
 | 0,m+1,s,h,h'=>by
  obtain rfl:s = []:=List.length_eq_zero_iff.1 (by omega);rfl
 | n+1,0,s,h,h'=>by
  obtain rfl:s = []:=List.length_eq_zero_iff.1 (by omega);rfl
 | n+1,m+1,s,h,h'=>by
  cases s with
  | nil=>rfl
  | cons c r =>
   simp only [abp] at h h';unfold Gg;simp only;split
   ·split
    ·rfl
    ·rename_i hg
     have h1:=sk (c :: r);rw [xC n m ((c :: r).drop (jd (c :: r))) (by simp; omega) (by simp; omega)]
   ·rw [xC n m r (by omega) (by omega)]
theorem Hn:ud []=some []:=rfl
theorem Mh (c:UInt8) (r:By):Cg (c :: r)=if il ((decodeL (c :: r)).1:Int)=0 then none else if c=37 then (if jd (c :: r)=0 then none else (Cg ((c :: r).drop (jd (c :: r)))).map fun l=>(true,(c :: r).take (jd (c :: r)),()) :: l)
   else (Cg ((c :: r).drop (decodeL (c :: r)).2)).map fun l=>(false,(c :: r).take (decodeL (c :: r)).2,()) :: l:=by
 have hp:=cS (c :: r);have h1:=sk (c :: r);show GK (r.length+1) (c :: r) = _;unfold GK Cg;simp only;split
 ·rfl
 split
 ·split
  ·rfl
  ·rename_i hg
   rw [tV r.length _ ((c :: r).drop (jd (c :: r))) (by simp; omega) (Nat.le_refl _)]
 ·rw [tV r.length _ ((c :: r).drop (decodeL (c :: r)).2) (by simp; omega) (Nat.le_refl _)]
theorem xX (c:UInt8) (r:By):ud (c :: r)=if c=37 then (if jd (c :: r)=0 then none else (ud ((c :: r).drop (jd (c :: r)))).map fun l=>(true,(c :: r).take (jd (c :: r)),()) :: l)
   else (ud r).map fun l=>(false,[c],()) :: l:=by
 have h1:=sk (c :: r);show Gg (r.length+1) (c :: r) = _;unfold Gg ud;simp only;split
 ·split
  ·rfl
  ·rename_i hg
   rw [xC r.length _ ((c :: r).drop (jd (c :: r))) (by simp; omega) (Nat.le_refl _)]
 ·rfl
theorem Ff (c:UInt8) (h:c.toNat<128) (r:By):decodeL (c :: r)=(c.toNat,1):=by
 have:=sj c.toNat (by unfold okR; omega) r;have e:bS c.toNat = [c]:=by unfold bS; rw [if_pos h]; simp
 rw [e] at this;exact this
theorem L5 (c:UInt8) (h:c.toNat<128) (r:By):dZ (c :: r)=((c.toNat:Int),[c]) :: dZ r:=by
 rw [lB (by simp),Ff c h];rfl
theorem AL:rT []=true:=by unfold rT; rw [ju]; rfl
theorem tQ {s:By} (h:s ≠ []):rT s=(decide (il ((decodeL s).1:Int)≠0) && rT (s.drop (decodeL s).2)):=by
 unfold rT;rw [lB h];rfl
theorem I5 {b:UInt8} (h:Mj b):il (b.toNat:Int)≠0:=by
 obtain ⟨h1,h2⟩:=h;unfold il;rw [if_neg (by omega)]
 repeat' split
 all_goals decide
theorem A1 (n:Nat) : ∀ s:By,(∀ b∈s.take n,Mj b)→rT s=rT (s.drop n):=by
 induction n with
 | zero=>intro s h; rfl
 | succ n ih =>
  intro s h;cases s with
  | nil=>rfl
  | cons c r =>
   have hc:Mj c:=h c (by simp);have aM:c.toNat<128:=by have:=hc.2; omega
   rw [tQ (by simp),Ff c aM,List.drop_succ_cons];simp only [List.drop_succ_cons,List.drop_zero];rw [abt (I5 hc),Bool.true_and];exact ih r fun b hb=>h b (by simp only [List.take_succ_cons]; exact List.mem_cons_of_mem _ hb)
theorem Mg (c:UInt8) (r:By) (hs:il ((decodeL (c :: r)).1:Int)≠0) (hc:c≠37) : ∀ b∈(c :: r).take (decodeL (c :: r)).2,b≠37:=by
 by_cases h:c.toNat<128
 ·rw [Ff c h]
  intro b hb;simp only [List.take_succ_cons,List.take_zero,List.mem_singleton] at hb;subst hb;exact hc
 ·have hb : ¬ ((decodeL (c :: r)).1=65533∧(decodeL (c :: r)).2=1):=by
   rintro ⟨h1,_⟩
   rw [h1] at hs;exact hs (by decide)
  rw [js (c :: r) (by simp) hb];have oe:=tO (c :: r);have Xh : ¬ (decodeL (c :: r)).1<128:=by
   intro aM;have ht:=js (c :: r) (by simp) hb;have e:bS (decodeL (c :: r)).1 = [UInt8.ofNat (decodeL (c :: r)).1]:=by unfold bS; rw [if_pos aM]
   rw [e] at ht;have hp:=cS (c :: r);obtain ⟨k,hk⟩ : ∃ k,(decodeL (c :: r)).2=k+1:=⟨(decodeL (c :: r)).2 - 1,by omega⟩
   rw [hk,List.take_succ_cons] at ht
   injection ht with h1 _
   rw [h1] at h;simp at h;omega
  generalize (decodeL (c :: r)).1=D at oe Xh;obtain ⟨o1,o2⟩:=oe;have ne : ∀ k:Nat,128≤k→k<256→UInt8.ofNat k≠37:=by
   intro k h1 h2 hh;have:=congrArg UInt8.toNat hh;have e:(UInt8.ofNat k).toNat=k:=by simp; omega
   rw [e] at this;have:(37:UInt8).toNat=37:=rfl;omega
  intro b hb;unfold bS at hb;rw [if_neg Xh] at hb;split at hb
  ·simp only [List.mem_cons,List.not_mem_nil,or_false] at hb
   rcases hb with rfl | rfl <;> exact ne _ (by omega) (by omega)
  split at hb
  ·simp only [List.mem_cons,List.not_mem_nil,or_false] at hb
   rcases hb with rfl | rfl | rfl <;> exact ne _ (by omega) (by omega)
  ·simp only [List.mem_cons,List.not_mem_nil,or_false] at hb
   rcases hb with rfl | rfl | rfl | rfl <;> exact ne _ (by omega) (by omega)
theorem Pz (n:Nat) : ∀ s:By,n≤s.length→(∀ b∈s.take n,b≠37)→ud s=(ud (s.drop n)).map fun l=>((s.take n).map fun b=>((false,[b],()):Pc)) ++ l:=by
 induction n with
 | zero =>
  intro s h hb;rw [List.take_zero,List.drop_zero];cases ud s <;> rfl
 | succ n ih =>
  intro s h hb;cases s with
  | nil=>simp at h
  | cons c r =>
   rw [xX,if_neg (hb c (by simp)),ih r (by simpa using h) (fun b pL=>hb b (by simp only [List.take_succ_cons]; exact List.mem_cons_of_mem _ pL))];rw [List.drop_succ_cons,List.take_succ_cons];cases ud (r.drop n) <;> rfl
theorem I4 (val:By→By) (l:By) (m:List Pc):C7 val ((l.map fun b=>((false,[b],()):Pc)) ++ m)=l ++ C7 val m:=by
 unfold C7;rw [List.flatMap_append];congr 1;induction l with
 | nil=>rfl
 | cons c l ih =>
  rw [List.map_cons,List.flatMap_cons,ih];rfl
theorem Ji (l:By) (m:List Pc):DL ((l.map fun b=>((false,[b],()):Pc)) ++ m)=DL m:=by
 unfold DL;rw [List.filter_append];have:(l.map fun b=>((false,[b],()):Pc)).filter (·.1) = []:=by
  rw [List.filter_eq_nil_iff];intro x hx;obtain ⟨b,_,rfl⟩:=List.mem_map.1 hx;exact abw
 rw [this];rfl
theorem E3 : ∀ (n:Nat) (s:By),s.length≤n→match Cg s with
  | some l=>rT s=true ∧ ∃ m,ud s=some m∧DL l=DL m ∧ ∀ val,C7 val l=C7 val m
  | none=>rT s=false∨ud s=none
 | 0,s,h=>by
  obtain rfl:s = []:=List.length_eq_zero_iff.1 (by omega);exact ⟨AL,[],rfl,rfl,fun _=>rfl⟩
 | n+1,s,h=>by
  cases s with
  | nil=>exact ⟨AL,[],rfl,rfl,fun _=>rfl⟩
  | cons c r =>
   have hp:=cS (c :: r);have hle:=decodeL_le (c :: r) (by simp);simp only [abp] at h;rw [Mh];by_cases hs:il ((decodeL (c :: r)).1:Int)=0
   ·rw [if_pos hs]
    refine .inl ?_;rw [tQ (by simp),abu (fun hh=>hh hs),Bool.false_and]
   rw [if_neg hs];by_cases hc:c=37
   ·subst hc
    rw [if_pos rfl,xX,if_pos rfl];by_cases hg:jd (37 :: r)=0
    ·rw [if_pos hg,if_pos hg]
     exact .inr rfl
    ·rw [if_neg hg,if_neg hg]
     have ih:=E3 n ((37 :: r:By).drop (jd (37 :: r))) (by rw [List.length_drop,abp]; omega);rw [A1 _ _ (IH r)];cases hx:Cg ((37 :: r:By).drop (jd (37 :: r))) with
     | none =>
      rw [hx] at ih;refine ih.imp id fun h => ?_
      rw [h];rfl
     | some l =>
      rw [hx] at ih;obtain ⟨i1,m,i2,i3,i4⟩:=ih;refine ⟨i1,_,by rw [i2]; rfl,?_,fun val => ?_⟩
      ·unfold DL at i3 ⊢
       simp only [List.filter_cons,if_true,List.map_cons];rw [i3]
      ·unfold C7 at i4 ⊢
       rw [List.flatMap_cons,List.flatMap_cons,i4 val]
   ·rw [if_neg hc]
    have ih:=E3 n ((c :: r).drop (decodeL (c :: r)).2) (by rw [List.length_drop,abp]; omega);have pM:=Pz (decodeL (c :: r)).2 (c :: r) hle (Mg c r hs hc);rw [tQ (by simp),abt hs,Bool.true_and];cases hx:Cg ((c :: r).drop (decodeL (c :: r)).2) with
    | none =>
     rw [hx] at ih;refine ih.imp id fun h => ?_
     rw [pM,h];rfl
    | some l =>
     rw [hx] at ih;obtain ⟨i1,m,i2,i3,i4⟩:=ih;refine ⟨i1,_,by rw [pM,i2]; rfl,?_,fun val => ?_⟩
     ·rw [Ji, ← i3]
      rfl
     ·rw [I4, ← i4 val]
      rfl
end Go.Vm
namespace Go.Vm
open Go.Lib (decodeL decodeN decodeL_N decode_N decodeN_shape decodeL_le)
set_option maxHeartbeats 1000000 in
theorem append_eq (F c:Nat) (h:okR c) (l:B8) (hl:l.length≤1000000000000):dh F (l,(c:Int))=some (l ++ ua (c:Int)):=by
 rw [nZ c h];obtain ⟨h1,h2⟩:=h;have u:IntKind.u32.wrap (c:Int)=(c:Int):=R9 _ (by omega) (by omega);have s6:shr .i32 (c:Int) 6=((c / 64:Nat):Int):=Fm c 6 (by omega);have s12:shr .i32 (c:Int) 12=((c / 4096:Nat):Int):=Fm c 12 (by omega);have s18:shr .i32 (c:Int) 18=((c / 262144:Nat):Int):=Fm c 18 (by omega);have L1:(l.length+1) * 1≤140737488355328:=by omega
 have L2:(l.length+2) * 1≤140737488355328:=by omega
 have L3:(l.length+3) * 1≤140737488355328:=by omega
 have L4:(l.length+4) * 1≤140737488355328:=by omega
 unfold dh el bS;simp only [u,s6,s12,s18,RT,abp,List.length_nil,Nat.zero_add,Nat.reduceAdd,L1,L2,L3,L4,decide_true,if_true,abo];by_cases c1:c<128
 ·have:(c:Int)≤127:=by omega
  simp only [c1,this,if_true,decide_true];rw [kQ _ (by omega) (by omega)];simp
 have n1 : ¬ (c:Int)≤127:=by omega
 by_cases c2:c<2048
 ·have:(c:Int)≤2047:=by omega
  simp only [c1,n1,c2,this,if_true,if_false,decide_true,decide_false,abq,abo];rw [kQ _ (by omega) (by omega),V0 _ (by omega)];simp only [Int.toNat_natCast]
 have n2 : ¬ (c:Int)≤2047:=by omega
 by_cases c3:c<65536
 ·have w:(c:Int)≤65535:=by omega
  have:(c:Int)<55296∨(57343:Int)<c:=by omega
  have hx:ior .u8 224 (IntKind.u8.wrap ((c / 4096:Nat):Int))=((224+c / 4096:Nat):Int):=by rw [kQ _ (by omega) (by omega),Ws _ (by omega)]
  by_cases c4:(c:Int)<55296
  ·simp only [c1,n1,c2,n2,c3,c4,if_true,if_false,decide_true,decide_false,abq,abo,Int.toNat_natCast,L3,hx,RT,s6,s12,s18]
  ·have c5:(57343:Int)<c:=by omega
   simp only [c1,n1,c2,n2,c3,c4,c5,w,if_true,if_false,decide_true,decide_false,abq,abo,Int.toNat_natCast,L3,hx,RT,s6,s12,s18]
 have n3 : ¬ (c:Int)≤65535:=by omega
 have c4 : ¬ (c:Int)<55296:=by omega
 have c5:(57343:Int)<c:=by omega
 have c6:(65535:Int)<c:=by omega
 have c7:(c:Int)≤1114111:=by omega
 have hx:ior .u8 240 (IntKind.u8.wrap ((c / 262144:Nat):Int))=((240+c / 262144:Nat):Int):=by rw [kQ _ (by omega) (by omega),Wi _ (by omega)]
 simp only [c1,n1,c2,n2,c3,n3,c4,c5,c6,c7,if_true,if_false,decide_true,decide_false,abq,abo,Int.toNat_natCast,L4,hx,RT,s6,s12,s18]
theorem Gt (F c:Nat) (h:okR c) (l:B8) (hl:l.length≤1000000000000) : ∃ n,bJ F (((),l,()),(c:Int))=some ((n,()),(),l ++ ua (c:Int),()):=by
 unfold bJ cE;simp only [abo,append_eq F c h l hl];exact ⟨_,rfl⟩
end Go.Vm
