import Derived.Test.YtihpjgcbmipdbaaGreatDoorPj3
import Derived.Lib.SplitLaws
import Derived.Lib.Join
import Derived.Lib.AtoiTie
set_option linter.unusedVariables false
set_option linter.unusedSimpArgs false
namespace Go.Vm
open Go.Lib (decodeL decDigits itoa nDigits)
theorem ua (s:By):ed s=s.take (ed s).length:=by
 unfold ed;cases s with
 | nil=>rfl
 | cons c r =>
  simp only;split
  ·rename_i h; subst h; rfl
  ·have:=List.takeWhile_prefix bN (l:=c::r)
   rw[List.length_take];have e:List.takeWhile bN (c::r)=(c::r).take (List.takeWhile bN (c::r)).length:=(List.prefix_iff_eq_take.1 this)
   conv=>lhs; rw[e]
   rw[List.take_take]
theorem uv (s:By):(ed s).length<=15/\(ed s).length<=s.length:=by
 refine ⟨?_,?_⟩
 ·unfold ed
  cases s with
  | nil=>simp
  | cons c r =>
   simp only;split
   ·simp
   ·simp; omega
 ·have:=congrArg List.length (ua s)
  simp only[List.length_take] at this;omega
theorem tJ (s:By):∀ c∈ed s,bN c=true:=by
 unfold ed;cases s with
 | nil=>simp
 | cons c r =>
  simp only;split
  ·intro x hx; simp at hx; subst hx; rfl
  ·intro x hx
   have:=List.all_takeWhile (p:=bN) (l:=c::r);rw[List.all_eq_true] at this;exact this x (List.mem_of_mem_take hx)
theorem Np (l:By) (c:UInt8):sY (l++[c])=sY l*10+(c.toNat-48):=by unfold sY; rw[List.foldl_append]; rfl
theorem Lh (l:By) (h:∀ c∈l,bN c=true):sY l<10 ^ l.length:=by
 have main:∀ (l:By) (n k:Nat),(∀ c∈l,bN c=true)->n<10 ^ k->l.foldl (fun n c=>n*10+(c.toNat-48)) n<10 ^ (k+l.length):=by
  intro l;induction l with
  | nil=>intro n k _ h; simpa using h
  | cons c l ih =>
   intro n k hd h;have hc:=hd c (adn ..);simp[bN] at hc;have:=ih (n*10+(c.toNat-48)) (k+1) (fun x hx=>hd x (adm _ hx)) (by rw[Nat.pow_succ]; omega);rw[adb,List.foldl_cons,show k+(l.length+1)=k+1+l.length by omega];exact this
 have:=main l 0 0 h (by decide);rw[Nat.zero_add] at this;exact this
theorem wb:∀ (k u:Nat),1<=k->u<10 ^ k->nDigits u<=k
 | 0,u,h,_=>by omega
 | 1,u,_,h=>by rw[Go.Lib.nDigits_small (by simpa using h)]; exact Nat.le_refl _
 | k+2,u,_,h=>by
  by_cases hu:u<10
  ·rw[Go.Lib.nDigits_small hu]; omega
  ·rw[Go.Lib.nDigits_big hu]
   have:=wb (k+1) (u / 10) (by omega) (by rw[Nat.pow_succ] at h; omega);omega
theorem P1 (u k:Nat) (h:1<=k) (hu:u<10 ^ k):(itoa (u:Int)).length<=k/\(itoa (-(u:Int))).length<=k+1:=by
 have h1:=wb k u h hu;unfold itoa;constructor
 ·rw[if_neg (by omega),Int.toNat_natCast,Go.Lib.decDigits_length]
  exact h1
 ·split
  ·rw[adb,Go.Lib.decDigits_length]
   have:(-(u:Int)).natAbs=u:=by omega
   rw[this]; omega
  ·rename_i hn
   have:(-(u:Int)).toNat=0:=by omega
   rw[this,Go.Lib.decDigits_length];rw[Go.Lib.nDigits_small (by decide)];omega
def okN (n:Int):Prop := -1000000000000000<n/\n<1000000000000000
theorem p15:10 ^ 15=1000000000000000:=by decide
theorem Cb (s:By):sY (ed s)<1000000000000000:=by
 have h1:=Lh (ed s) (tJ s);have h2:10 ^ (ed s).length<=10 ^ 15:=Nat.pow_le_pow_right (by decide) (uv s).1;rw[p15] at h2;omega
theorem DD (s:By) (h:ed s ≠ []):(itoa (sY (ed s):Int)).length<=(ed s).length/\(itoa (-(sY (ed s):Int))).length<=(ed s).length+1 :=
 P1 _ _ (by have:=List.length_pos_iff.2 h; omega) (Lh _ (tJ s))
theorem U1 {s r:By} {n:Int} (h:yq s=some (n,r)):okN n/\r <:+ s/\(itoa n).length+r.length<=s.length/\r.length<s.length:=by
 unfold yq at h;split at h
 ·cases h
 ·rename_i c t
  split at h
  ·split at h
   ·cases h
   ·rename_i iv
    cases h;have h1:=Cb t;have h2:=DD t iv;have h3:=uv t;exact ⟨⟨by omega,by omega⟩,(List.drop_suffix _ _).trans (List.suffix_cons _ _),by simp; omega,by simp; omega⟩
  ·split at h
   ·cases h
   ·rename_i iv
    cases h;have h1:=Cb (c::t);have h2:=DD (c::t) iv;have h3:=uv (c::t);have h4:=List.length_pos_iff.2 iv;simp only[adb] at h3;exact ⟨⟨by omega,by omega⟩,List.drop_suffix _ _,by simp; omega,by simp; omega⟩
theorem Ns (u:Nat):(∀ c∈decDigits u,bN c=true)/\sY (decDigits u)=u/\(u≠0 -> ∀ c q,decDigits u=c::q->c≠48):=by
 induction u using Nat.strongRecOn with
 | _ u ih =>
  rw[decDigits];split
  ·rename_i h
   have e:(UInt8.ofNat (48+u)).toNat=48+u:=by simp; omega
   refine ⟨?_,?_,?_⟩
   ·intro c hc; simp at hc; subst hc; simp[bN]; omega
   ·simp[sY]; omega
   ·intro hu c q hq
    injection hq with hq _
    rw[<-hq];intro hh;have:=congrArg UInt8.toNat hh;rw[e] at this;have:(48:UInt8).toNat=48:=rfl;omega
  ·rename_i h
   obtain ⟨i1,i2,i3⟩:=ih (u / 10) (by omega);have e:(UInt8.ofNat (48+u % 10)).toNat=48+u % 10:=by simp; omega
   refine ⟨?_,?_,?_⟩
   ·intro c hc
    rcases List.mem_append.1 hc with hc | hc
    ·exact i1 c hc
    ·simp at hc; subst hc; simp[bN]; omega
   ·rw[Np,i2,e]; omega
   ·intro hu c q hq
    have hl:=Go.Lib.decDigits_length (u / 10);have:=Go.Lib.nDigits_pos (u / 10);cases hd:decDigits (u / 10) with
    | nil=>rw[hd] at hl; simp at hl; omega
    | cons x l =>
     rw[hd] at hq
     injection hq with hq _
     rw[<-hq];exact i3 (by omega) x l hd
theorem Q5 (u:Nat):∃ c q,decDigits u=c::q/\bN c=true:=by
 obtain ⟨f1,_⟩:=Ns u;have hp:1<=(decDigits u).length:=by rw[Go.Lib.decDigits_length]; exact Go.Lib.nDigits_pos u
 cases hd:decDigits u with
 | nil=>rw[hd] at hp; simp at hp
 | cons c q=>exact ⟨c,q,rfl,f1 c (by rw[hd]; exact adn ..)⟩
theorem MF (n:Int):∃ c q,itoa n=c::q/\(c=45\/bN c=true):=by
 unfold itoa;split
 ·exact ⟨_,_,rfl,.inl rfl⟩
 ·obtain ⟨c,q,hc,hd⟩:=Q5 n.toNat
  exact ⟨c,q,hc,.inr hd⟩
end Go.Vm
namespace Go.Vm
open Go.Lib (decDigits itoa)
end Go.Vm
namespace Go.Vm
open Go.Lib (decodeL decodeN decodeL_N decode_N decodeN_shape decodeL_le)
def zL (c:UInt8):Bool:=(decide (97<=c.toNat)&&decide (c.toNat<=122)) || (decide (48<=c.toNat)&&decide (c.toNat<=57))
def nmP (s:By):Bool:=s.all zL&&decide (1<=s.length)&&decide (s.length<=12)
def cr (s:By):Nat:=match s with
 | _::b::r=>if b=37\/b=98\/b=107\/b=109\/b=112 then 2 else if b=123 then
   (if (r.takeWhile (fun c=>c != 125)).length<r.length/\nmP (r.takeWhile (fun c=>c != 125))=true then (r.takeWhile (fun c=>c != 125)).length+3 else 0) else 0
 | _=>0
theorem Am (s:By):cr s<=s.length:=by
 unfold cr;split
 ·rename_i a b r
  split
  ·simp
  ·split
   ·split
    ·rename_i h
     simp only[adb];omega
    ·omega
   ·omega
 ·omega
theorem ox (s:By):cr s≠1:=by
 unfold cr;split
 ·split
  ·decide
  ·split
   ·split <;> omega
   ·decide
 ·decide
def KZ (b:UInt8):Prop:=33<=b.toNat/\b.toNat<=126
theorem Ng (a:By) (x:UInt8) (t:By):(a++x::t).take (a.length+1)=a++[x]:=by
 rw[List.take_append,List.take_of_length_le (by omega),show a.length+1-a.length=1 by omega];rfl
theorem Bt (r:By):∀ b∈(37::r:By).take (cr (37::r)),KZ b:=by
 unfold cr;split
 ·rename_i a c q heq
  injection heq with h1 h2
  subst h1; subst h2;split
  ·rename_i hc
   intro b hb;simp only[List.take_succ_cons,List.take_zero] at hb;rcases List.mem_cons.1 hb with rfl | hb
   ·exact ⟨by decide,by decide⟩
   ·rw[List.mem_singleton] at hb
    subst hb;rcases hc with rfl | rfl | rfl | rfl | rfl <;> exact ⟨by decide,by decide⟩
  ·split
   ·rename_i YA
    subst YA;split
    ·rename_i hk
     obtain ⟨hk,zF⟩:=hk;intro b hb;have I6:q=q.takeWhile (fun c=>c != 125)++q.dropWhile (fun c=>c != 125):=(List.takeWhile_append_dropWhile ..).symm;have iv:q.dropWhile (fun c=>c != 125) ≠ []:=by
      intro hh;rw[hh,List.append_nil] at I6;have:=congrArg List.length I6;omega
     obtain ⟨x,t,hx⟩:=List.exists_cons_of_ne_nil iv;have YB:x=125:=by
      have:=List.head_dropWhile_not (fun c=>c != 125) iv;simp only[hx,List.head_cons] at this;simpa using this
     have I4:(37::123::q:By).take ((q.takeWhile (fun c=>c != 125)).length+3)=37::123::(q.takeWhile (fun c=>c != 125)++[x]):=by
      rw[show (q.takeWhile (fun c=>c != 125)).length+3=((q.takeWhile (fun c=>c != 125)).length+1)+1+1 by omega,List.take_succ_cons,List.take_succ_cons];congr 2;exact (congrArg (List.take _) (I6.trans (by rw[hx]))).trans (Ng _ _ _)
     rw[I4] at hb;unfold nmP at zF;simp only[adi] at zF;rcases List.mem_cons.1 hb with rfl | hb
     ·exact ⟨by decide,by decide⟩
     rcases List.mem_cons.1 hb with rfl | hb
     ·exact ⟨by decide,by decide⟩
     rcases List.mem_append.1 hb with hb | hb
     ·have:=List.all_eq_true.1 zF.1.1 b hb
      simp[zL] at this;unfold KZ;omega
     ·rw[List.mem_singleton] at hb
      subst hb;subst YB;exact ⟨by decide,by decide⟩
    ·intro b hb; rw[List.take_zero] at hb; cases hb
   ·intro b hb; rw[List.take_zero] at hb; cases hb
 ·intro b hb; rw[List.take_zero] at hb; cases hb
end Go.Vm
namespace Go.Vm
open Go.Lib (decodeL decodeN decodeL_N decode_N decodeN_shape decodeL_le)
abbrev Pc:=Bool×B8×Unit
def H2:Nat->By->Option (List Pc)
 | 0,_=>some []
 | n+1,s=>match s with
  | []=>some []
  | c::r=>if bw ((decodeL s).1:Int)=0 then none else if c=37 then (if cr s=0 then none else (H2 n (s.drop (cr s))).map fun l=>(true,s.take (cr s),())::l)
   else (H2 n (s.drop (decodeL s).2)).map fun l=>(false,s.take (decodeL s).2,())::l
def HG:Nat->By->Option (List Pc)
 | 0,_=>some []
 | n+1,s=>match s with
  | []=>some []
  | c::r=>if c=37 then (if cr s=0 then none else (HG n (s.drop (cr s))).map fun l=>(true,s.take (cr s),())::l)
   else (HG n r).map fun l=>(false,[c],())::l
def oM (s:By):Option (List Pc):=H2 s.length s
def ud (s:By):Option (List Pc):=HG s.length s
def xO (s:By):Bool:=(bF s).all fun x=>decide (bw x.1≠0)
def DJ (l:List Pc):List By:=(l.filter (·.1)).map (·.2.1)
def kg (val:By->By) (l:List Pc):By:=l.flatMap fun p=>if p.1=true then val p.2.1 else p.2.1
theorem uV:∀ (n m:Nat) (s:By),s.length<=n->s.length<=m->H2 n s=H2 m s
 | 0,0,s,h,h'=>rfl
 | 0,m+1,s,h,h'=>by
  obtain rfl:s=[]:=List.length_eq_zero_iff.1 (by omega);rfl
 | n+1,0,s,h,h'=>by
  obtain rfl:s=[]:=List.length_eq_zero_iff.1 (by omega);rfl
 | n+1,m+1,s,h,h'=>by
  cases s with
  | nil=>rfl
  | cons c r =>
   have hp:=bH (c::r);simp only[adb] at h h';unfold H2;simp only;split
   ·rfl
   split
   ·split
    ·rfl
    ·rename_i hg
     have h1:=ox (c::r);rw[uV n m ((c::r).drop (cr (c::r))) (by simp; omega) (by simp; omega)]
   ·rw[uV n m ((c::r).drop (decodeL (c::r)).2) (by simp; omega) (by simp; omega)]
theorem yP:∀ (n m:Nat) (s:By),s.length<=n->s.length<=m->HG n s=HG m s
 | 0,0,s,h,h'=>rfl
 | 0,m+1,s,h,h'=>by
  obtain rfl:s=[]:=List.length_eq_zero_iff.1 (by omega);rfl
 | n+1,0,s,h,h'=>by
  obtain rfl:s=[]:=List.length_eq_zero_iff.1 (by omega);rfl
 | n+1,m+1,s,h,h'=>by
  cases s with
  | nil=>rfl
  | cons c r =>
   simp only[adb] at h h';unfold HG;simp only;split
   ·split
    ·rfl
    ·rename_i hg
     have h1:=ox (c::r);rw[yP n m ((c::r).drop (cr (c::r))) (by simp; omega) (by simp; omega)]
   ·rw[yP n m r (by omega) (by omega)]
theorem xj:oM []=some []:=rfl
theorem xD:ud []=some []:=rfl
theorem yA (c:UInt8) (r:By):oM (c::r)=if bw ((decodeL (c::r)).1:Int)=0 then none else if c=37 then (if cr (c::r)=0 then none else (oM ((c::r).drop (cr (c::r)))).map fun l=>(true,(c::r).take (cr (c::r)),())::l)
   else (oM ((c::r).drop (decodeL (c::r)).2)).map fun l=>(false,(c::r).take (decodeL (c::r)).2,())::l:=by
 have hp:=bH (c::r);have h1:=ox (c::r);show H2 (r.length+1) (c::r) = _;unfold H2 oM;simp only;split
 ·rfl
 split
 ·split
  ·rfl
  ·rename_i hg
   rw[uV r.length _ ((c::r).drop (cr (c::r))) (by simp; omega) (Nat.le_refl _)]
 ·rw[uV r.length _ ((c::r).drop (decodeL (c::r)).2) (by simp; omega) (Nat.le_refl _)]
theorem uW (c:UInt8) (r:By):ud (c::r)=if c=37 then (if cr (c::r)=0 then none else (ud ((c::r).drop (cr (c::r)))).map fun l=>(true,(c::r).take (cr (c::r)),())::l)
   else (ud r).map fun l=>(false,[c],())::l:=by
 have h1:=ox (c::r);show HG (r.length+1) (c::r) = _;unfold HG ud;simp only;split
 ·split
  ·rfl
  ·rename_i hg
   rw[yP r.length _ ((c::r).drop (cr (c::r))) (by simp; omega) (Nat.le_refl _)]
 ·rfl
theorem xp (c:UInt8) (h:c.toNat<128) (r:By):decodeL (c::r)=(c.toNat,1):=by
 have:=BP c.toNat (by unfold okR; omega) r;have e:bR c.toNat=[c]:=by unfold bR; rw[if_pos h]; simp
 rw[e] at this;exact this
theorem MI (c:UInt8) (h:c.toNat<128) (r:By):bF (c::r)=((c.toNat:Int),[c])::bF r:=by
 rw[hQ (by simp),xp c h];rfl
theorem He:xO []=true:=by unfold xO; rw[fu]; rfl
theorem yp {s:By} (h:s ≠ []):xO s=(decide (bw ((decodeL s).1:Int)≠0)&&xO (s.drop (decodeL s).2)):=by
 unfold xO;rw[hQ h];rfl
theorem Kx {b:UInt8} (h:KZ b):bw (b.toNat:Int)≠0:=by
 obtain ⟨h1,h2⟩:=h;unfold bw;rw[if_neg (by omega)]
 repeat' split
 all_goals decide
theorem KQ (n:Nat):∀ s:By,(∀ b∈s.take n,KZ b)->xO s=xO (s.drop n):=by
 induction n with
 | zero=>intro s h; rfl
 | succ n ih =>
  intro s h;cases s with
  | nil=>rfl
  | cons c r =>
   have hc:KZ c:=h c (by simp);have aH:c.toNat<128:=by have:=hc.2; omega
   rw[yp (by simp),xp c aH,List.drop_succ_cons];simp only[List.drop_succ_cons,List.drop_zero];rw[adg (Kx hc),Bool.true_and];exact ih r fun b hb=>h b (by simp only[List.take_succ_cons]; exact adm _ hb)
theorem My (c:UInt8) (r:By) (hs:bw ((decodeL (c::r)).1:Int)≠0) (hc:c≠37):∀ b∈(c::r).take (decodeL (c::r)).2,b≠37:=by
 by_cases h:c.toNat<128
 ·rw[xp c h]
  intro b hb;simp only[List.take_succ_cons,List.take_zero,List.mem_singleton] at hb;subst hb;exact hc
 ·have hb:¬ ((decodeL (c::r)).1=65533/\(decodeL (c::r)).2=1):=by
   rintro ⟨h1,_⟩
   rw[h1] at hs;exact hs (by decide)
  rw[jK (c::r) (by simp) hb];have zI:=pG (c::r);have YC:¬ (decodeL (c::r)).1<128:=by
   intro aH;have ht:=jK (c::r) (by simp) hb;have e:bR (decodeL (c::r)).1=[UInt8.ofNat (decodeL (c::r)).1]:=by unfold bR; rw[if_pos aH]
   rw[e] at ht;have hp:=bH (c::r);obtain ⟨k,hk⟩:∃ k,(decodeL (c::r)).2=k+1:=⟨(decodeL (c::r)).2-1,by omega⟩
   rw[hk,List.take_succ_cons] at ht
   injection ht with h1 _
   rw[h1] at h;simp at h;omega
  generalize (decodeL (c::r)).1=D at zI YC;obtain ⟨o1,o2⟩:=zI;have ne:∀ k:Nat,128<=k->k<256->UInt8.ofNat k≠37:=by
   intro k h1 h2 hh;have:=congrArg UInt8.toNat hh;have e:(UInt8.ofNat k).toNat=k:=by simp; omega
   rw[e] at this;have:(37:UInt8).toNat=37:=rfl;omega
  intro b hb;unfold bR at hb;rw[if_neg YC] at hb;split at hb
  ·simp only[List.mem_cons,List.not_mem_nil,or_false] at hb
   rcases hb with rfl | rfl <;> exact ne _ (by omega) (by omega)
  split at hb
  ·simp only[List.mem_cons,List.not_mem_nil,or_false] at hb
   rcases hb with rfl | rfl | rfl <;> exact ne _ (by omega) (by omega)
  ·simp only[List.mem_cons,List.not_mem_nil,or_false] at hb
   rcases hb with rfl | rfl | rfl | rfl <;> exact ne _ (by omega) (by omega)
theorem Qp (n:Nat):∀ s:By,n<=s.length->(∀ b∈s.take n,b≠37)->ud s=(ud (s.drop n)).map fun l=>((s.take n).map fun b=>((false,[b],()):Pc))++l:=by
 induction n with
 | zero =>
  intro s h hb;rw[List.take_zero,List.drop_zero];cases ud s <;> rfl
 | succ n ih =>
  intro s h hb;cases s with
  | nil=>simp at h
  | cons c r =>
   rw[uW,if_neg (hb c (by simp)),ih r (by simpa using h) (fun b qI=>hb b (by simp only[List.take_succ_cons]; exact adm _ qI))];rw[List.drop_succ_cons,List.take_succ_cons];cases ud (r.drop n) <;> rfl
theorem KM (val:By->By) (l:By) (m:List Pc):kg val ((l.map fun b=>((false,[b],()):Pc))++m)=l++kg val m:=by
 unfold kg;rw[List.flatMap_append];congr 1;induction l with
 | nil=>rfl
 | cons c l ih =>
  rw[List.map_cons,List.flatMap_cons,ih];rfl
theorem Jw (l:By) (m:List Pc):DJ ((l.map fun b=>((false,[b],()):Pc))++m)=DJ m:=by
 unfold DJ;rw[List.filter_append];have:(l.map fun b=>((false,[b],()):Pc)).filter (·.1)=[]:=by
  rw[List.filter_eq_nil_iff];intro x hx;obtain ⟨b,_,rfl⟩:=List.mem_map.1 hx;exact adj
 rw[this];rfl
theorem Af:∀ (n:Nat) (s:By),s.length<=n->match oM s with
  | some l=>xO s=true /\ ∃ m,ud s=some m/\DJ l=DJ m /\ ∀ val,kg val l=kg val m
  | none=>xO s=false\/ud s=none
 | 0,s,h=>by
  obtain rfl:s=[]:=List.length_eq_zero_iff.1 (by omega);exact ⟨He,[],rfl,rfl,fun _=>rfl⟩
 | n+1,s,h=>by
  cases s with
  | nil=>exact ⟨He,[],rfl,rfl,fun _=>rfl⟩
  | cons c r =>
   have hp:=bH (c::r);have hle:=decodeL_le (c::r) (by simp);simp only[adb] at h;rw[yA];by_cases hs:bw ((decodeL (c::r)).1:Int)=0
   ·rw[if_pos hs]
    refine .inl ?_;rw[yp (by simp),adh (fun hh=>hh hs),Bool.false_and]
   rw[if_neg hs];by_cases hc:c=37
   ·subst hc
    rw[if_pos rfl,uW,if_pos rfl];by_cases hg:cr (37::r)=0
    ·rw[if_pos hg,if_pos hg]
     exact .inr rfl
    ·rw[if_neg hg,if_neg hg]
     have ih:=Af n ((37::r:By).drop (cr (37::r))) (by rw[List.length_drop,adb]; omega);rw[KQ _ _ (Bt r)];cases hx:oM ((37::r:By).drop (cr (37::r))) with
     | none =>
      rw[hx] at ih;refine ih.imp id fun h => ?_
      rw[h];rfl
     | some l =>
      rw[hx] at ih;obtain ⟨i1,m,i2,i3,i4⟩:=ih;refine ⟨i1,_,by rw[i2]; rfl,?_,fun val => ?_⟩
      ·unfold DJ at i3 ⊢
       simp only[List.filter_cons,if_true,List.map_cons];rw[i3]
      ·unfold kg at i4 ⊢
       rw[List.flatMap_cons,List.flatMap_cons,i4 val]
   ·rw[if_neg hc]
    have ih:=Af n ((c::r).drop (decodeL (c::r)).2) (by rw[List.length_drop,adb]; omega);have qJ:=Qp (decodeL (c::r)).2 (c::r) hle (My c r hs hc);rw[yp (by simp),adg hs,Bool.true_and];cases hx:oM ((c::r).drop (decodeL (c::r)).2) with
    | none =>
     rw[hx] at ih;refine ih.imp id fun h => ?_
     rw[qJ,h];rfl
    | some l =>
     rw[hx] at ih;obtain ⟨i1,m,i2,i3,i4⟩:=ih;refine ⟨i1,_,by rw[qJ,i2]; rfl,?_,fun val => ?_⟩
     ·rw[Jw,<-i3]
      rfl
     ·rw[KM,<-i4 val]
      rfl
end Go.Vm
namespace Go.Vm
open Go.Lib (decodeL decodeN decodeL_N decode_N decodeN_shape decodeL_le)
set_option maxHeartbeats 1000000 in
theorem append_eq (F c:Nat) (h:okR c) (l:B8) (hl:l.length<=1000000000000):dz F (l,(c:Int))=some (l++ru (c:Int)):=by
 rw[k6 c h];obtain ⟨h1,h2⟩:=h;have u:IntKind.u32.wrap (c:Int)=(c:Int):=SD _ (by omega) (by omega);have s6:shr .i32 (c:Int) 6=((c / 64:Nat):Int):=F6 c 6 (by omega);have s12:shr .i32 (c:Int) 12=((c / 4096:Nat):Int):=F6 c 12 (by omega);have s18:shr .i32 (c:Int) 18=((c / 262144:Nat):Int):=F6 c 18 (by omega);have L1:(l.length+1)*1<=140737488355328:=by omega
 have L2:(l.length+2)*1<=140737488355328:=by omega
 have L3:(l.length+3)*1<=140737488355328:=by omega
 have L4:(l.length+4)*1<=140737488355328:=by omega
 unfold dz eG bR;simp only[u,s6,s12,s18,TA,adb,List.length_nil,Nat.zero_add,Nat.reduceAdd,L1,L2,L3,L4,decide_true,if_true,ada];by_cases c1:c<128
 ·have:(c:Int)<=127:=by omega
  simp only[c1,this,if_true,decide_true];rw[kY _ (by omega) (by omega)];simp
 have n1:¬ (c:Int)<=127:=by omega
 by_cases c2:c<2048
 ·have:(c:Int)<=2047:=by omega
  simp only[c1,n1,c2,this,if_true,if_false,decide_true,decide_false,ade,ada];rw[kY _ (by omega) (by omega),XO _ (by omega)];simp only[Int.toNat_natCast]
 have n2:¬ (c:Int)<=2047:=by omega
 by_cases c3:c<65536
 ·have w:(c:Int)<=65535:=by omega
  have:(c:Int)<55296\/(57343:Int)<c:=by omega
  have hx:ior .u8 224 (IntKind.u8.wrap ((c / 4096:Nat):Int))=((224+c / 4096:Nat):Int):=by rw[kY _ (by omega) (by omega),XF _ (by omega)]
  by_cases c4:(c:Int)<55296
  ·simp only[c1,n1,c2,n2,c3,c4,if_true,if_false,decide_true,decide_false,ade,ada,Int.toNat_natCast,L3,hx,TA,s6,s12,s18]
  ·have c5:(57343:Int)<c:=by omega
   simp only[c1,n1,c2,n2,c3,c4,c5,w,if_true,if_false,decide_true,decide_false,ade,ada,Int.toNat_natCast,L3,hx,TA,s6,s12,s18]
 have n3:¬ (c:Int)<=65535:=by omega
 have c4:¬ (c:Int)<55296:=by omega
 have c5:(57343:Int)<c:=by omega
 have c6:(65535:Int)<c:=by omega
 have c7:(c:Int)<=1114111:=by omega
 have hx:ior .u8 240 (IntKind.u8.wrap ((c / 262144:Nat):Int))=((240+c / 262144:Nat):Int):=by rw[kY _ (by omega) (by omega),Xo _ (by omega)]
 simp only[c1,n1,c2,n2,c3,n3,c4,c5,c6,c7,if_true,if_false,decide_true,decide_false,ade,ada,Int.toNat_natCast,L4,hx,TA,s6,s12,s18]
theorem Iu (F c:Nat) (h:okR c) (l:B8) (hl:l.length<=1000000000000):∃ n,bP F (((),l,()),(c:Int))=some ((n,()),(),l++ru (c:Int),()):=by
 unfold bP bC;simp only[ada,append_eq F c h l hl];exact ⟨_,rfl⟩
end Go.Vm
namespace Go.Vm
open Go.Lib (itoa)
def okB (O:Option (JV->Prop)):JV->Prop
 | .nil=>False
 | .null=>True
 | .bool _=>True
 | .int n=>okN n
 | .str t=>OkT t
 | .list l=>match O with
  | none=>False
  | some O => ∀ v∈l,O v
 | .obj l=>match O with
  | none=>False
  | some O=>Ris l /\ ∀ m∈l,OkT m.1/\O m.2.1
def okV:Nat->JV->Prop
 | 0=>okB none
 | d+1=>okB (some (okV d))
def Head (c:UInt8):Prop:=qi c=false/\c≠93/\c≠125/\c≠44
theorem Hg {c:UInt8} (h:c=45\/bN c=true):Head c/\c≠123/\c≠91/\c≠34/\c≠110/\c≠116/\c≠102:=by
 rcases h with rfl | h
 ·exact ⟨⟨rfl,by decide,by decide,by decide⟩,by decide,by decide,by decide,by decide,by decide,by decide⟩
 ·have hb:qi c=false:=by
   have q:∀ k:UInt8,bN k=false->(c == k)=false:=by
    intro k hk;rw[beq_eq_false_iff_ne]
    rintro rfl
    rw[h] at hk; cases hk
   unfold qi;rw[q 32 (by decide),q 9 (by decide),q 10 (by decide),q 13 (by decide)];rfl
  refine ⟨⟨hb,?_,?_,?_⟩,?_,?_,?_,?_,?_,?_⟩ <;> (rintro rfl; exact absurd h (by decide))
theorem Qn:∀ (d:Nat) (v:JV),okV d v -> ∃ c q,cg d v=c::q/\Head c:=by
 intro d v h;have hd:Head 110/\Head 116/\Head 102/\Head 34/\Head 91/\Head 123:=by refine ⟨?_,?_,?_,?_,?_,?_⟩ <;> exact ⟨rfl,by decide,by decide,by decide⟩
 obtain ⟨h1,h2,h3,h4,h5,h6⟩:=hd;cases v with
 | nil=>cases d <;> exact h.elim
 | null=>cases d <;> exact ⟨_,_,rfl,h1⟩
 | bool b=>cases d <;> cases b <;> first | exact ⟨_,_,rfl,h2⟩ | exact ⟨_,_,rfl,h3⟩
 | int n =>
  obtain ⟨c,q,e,hc⟩:=MF n;cases d <;> exact ⟨c,q,e,(Hg hc).1⟩
 | str t=>cases d <;> exact ⟨_,_,rfl,h4⟩
 | list l=>cases d with
  | zero=>exact h.elim
  | succ d=>exact ⟨_,_,rfl,h5⟩
 | obj l=>cases d with
  | zero=>exact h.elim
  | succ d=>exact ⟨_,_,rfl,h6⟩
theorem OM {c:UInt8} (h:qi c=false) (q:By):skp (c::q)=c::q:=by unfold skp; rw[List.dropWhile_cons_of_neg (by rw[h]; decide)]
theorem Lj {c:UInt8} (h:qi c=true) (q:By):skp (c::q)=skp q:=by unfold skp; rw[List.dropWhile_cons_of_pos h]
theorem BN {α:Type} (f:α->By):∀ l:List α,(∀ v∈l,f v ≠ [])->l.length<=(eF (l.map f)).length
 | [],_=>by simp
 | [v],h=>by have:=List.length_pos_iff.2 (h v (by simp)); simp[eF]; omega
 | v::w::l,h=>by
  have:=BN f (w::l) (fun v hv=>h v (adm _ hv));simp only[List.map_cons,eF,adf,adb] at this ⊢
  omega
end Go.Vm
namespace Go.Vm
open Go.Lib (itoa)
theorem PM (V:By->Except Nat (JV×By)) (f:JV->By) (O:JV->Prop) (hV:∀ s v r,V s = .ok (v,r)->O v/\r <:+ s/\r.length<s.length/\(f v).length+r.length<=s.length) :
  ∀ (n:Nat) (s:By) (l:List JV) (r:By),ve V n s = .ok (l,r)->(∀ v∈l,O v)/\r <:+ s/\(eF (l.map f)).length+1+r.length<=s.length
 | 0,s,l,r,h=>by cases h
 | n+1,s,l,r,h=>by
  unfold ve at h;cases hv:V s with
  | error e=>rw[hv] at h; cases h
  | ok x =>
   obtain ⟨v,r1⟩:=x;rw[hv] at h;obtain ⟨o1,o2,o3,o4⟩:=hV s v r1 hv;simp only at h;split at h
   ·rename_i r2 hs
    have q1:=fD r1;have q2:(44::r2) <:+ r1:=hs ▸ aw r1;rw[hs,adb] at q1;cases hl:ve V n r2 with
    | error e=>rw[hl] at h; cases h
    | ok y =>
     obtain ⟨l',r'⟩:=y;rw[hl] at h;cases h;obtain ⟨i1,i2,i3⟩:=PM V f O hV n r2 l' r hl;refine ⟨fun w hw => ?_,(i2.trans (List.suffix_cons _ _)).trans (q2.trans o2),?_⟩
     ·rcases List.mem_cons.1 hw with rfl | hw
      ·exact o1
      ·exact i1 w hw
     ·cases l' with
      | nil=>simp[eF] at i3 ⊢; omega
      | cons w l'=>simp only[List.map_cons,eF,adf,adb] at i3 ⊢; omega
   ·rename_i r2 hs
    cases h;have q1:=fD r1;have q2:(93::r) <:+ r1:=hs ▸ aw r1;rw[hs,adb] at q1;refine ⟨fun w hw => ?_,(List.suffix_cons _ _).trans (q2.trans o2),?_⟩
    ·rw[List.mem_singleton] at hw; subst hw; exact o1
    ·simp[eF]; omega
   ·cases h
def szM (f:JV->By) (l:List Me):Nat:=(l.map fun m=>(quo m.1++58::f m.2.1).length+1).sum
theorem LU {α:Type} (f:α->By):∀ (a:α) (l:List α),(eF ((a::l).map f)).length+1=((a::l).map fun x=>(f x).length+1).sum
 | a,[]=>by simp[eF]
 | a,b::l=>by
  have:=LU f b l;simp only[List.map_cons,eF,adf,adb,List.sum_cons] at this ⊢
  omega
theorem OR (V:By->Except Nat (JV×By)) (f:JV->By) (O:JV->Prop) (hV:∀ s v r,V s = .ok (v,r)->O v/\r <:+ s/\r.length<s.length/\(f v).length+r.length<=s.length) :
  ∀ (n:Nat) (acc:List Me) (s:By) (l:List Me) (r:By),wm V n acc s = .ok (l,r)->Uni acc->(∀ m∈acc,OkT m.1/\O m.2.1)->Uni l/\l ≠ []/\(∀ m∈l,OkT m.1/\O m.2.1)/\r <:+ s/\szM f l+r.length<=szM f acc+s.length
 | 0,acc,s,l,r,h,_,_=>by cases h
 | n+1,acc,s,l,r,h,hu,ha=>by
  unfold wm at h;split at h
  ·rename_i r0 h0
   have q1:=fD s;have q2:(34::r0) <:+ s:=h0 ▸ aw s;rw[h0,adb] at q1;split at h
   ·cases h
   ·rename_i name r1 h1
    obtain ⟨t1,t2,t3⟩:=yu r0 h1;split at h
    ·cases h
    ·rename_i yW
     split at h
     ·rename_i r2 h2
      have q3:=fD r1;have q4:(58::r2) <:+ r1:=h2 ▸ aw r1;rw[h2,adb] at q3;cases hv:V r2 with
      | error e=>rw[hv] at h; cases h
      | ok x =>
       obtain ⟨v,r3⟩:=x;rw[hv] at h;obtain ⟨o1,o2,o3,o4⟩:=hV r2 v r3 hv;have wG:Uni (acc++[(name,v,())]):=by
        refine List.pairwise_append.2 ⟨hu,List.pairwise_singleton _ _,fun x hx y hy => ?_⟩;rw[List.mem_singleton] at hy;subst hy;intro e;apply yW;rw[List.any_eq_true];exact ⟨x,hx,by simpa using e⟩
       have RY:∀ m∈acc++[(name,v,())],OkT m.1/\O m.2.1:=by
        intro m hm;rcases List.mem_append.1 hm with hm | hm
        ·exact ha m hm
        ·rw[List.mem_singleton] at hm; subst hm; exact ⟨t1,o1⟩
       have hz:szM f (acc++[(name,v,())])=szM f acc+((kQ name).length+(f v).length+4):=by
        unfold szM quo;simp;omega
       have uC:r3 <:+ s:=o2.trans ((List.suffix_cons _ _).trans (q4.trans (t2.trans ((List.suffix_cons _ _).trans q2))));simp only at h;split at h
       ·rename_i r4 h4
        have q5:=fD r3;have q6:(44::r4) <:+ r3:=h4 ▸ aw r3;rw[h4,adb] at q5;obtain ⟨i1,i2,i3,i4,i5⟩:=OR V f O hV n _ r4 l r h wG RY;exact ⟨i1,i2,i3,i4.trans ((List.suffix_cons _ _).trans (q6.trans uC)),by rw[hz] at i5; omega⟩
       ·rename_i r4 h4
        cases h;have q5:=fD r3;have q6:(125::r) <:+ r3:=h4 ▸ aw r3;rw[h4,adb] at q5;exact ⟨wG,by simp,RY,(List.suffix_cons _ _).trans (q6.trans uC),by rw[hz]; omega⟩
       ·cases h
     ·cases h
  ·cases h
theorem Tm (f:JV->By) {l l':List Me} (h:l.Perm l'):szM f l=szM f l':=(h.map _).sum_nat
theorem vX:∀ (d:Nat) (s:By) (v:JV) (r:By),jF d s = .ok (v,r)->okV d v/\r <:+ s/\r.length<s.length/\(cg d v).length+r.length<=s.length:=by
 have base:∀ (V:Option (By->Except Nat (JV×By))) (L:Option (JV->By)) (O:Option (JV->Prop)) (hLO:V=none/\L=none/\O=none \/ ∃ W M Q,V=some W/\L=some M/\O=some Q /\ ∀ s v r,W s = .ok (v,r)->Q v/\r <:+ s/\r.length<s.length/\(M v).length+r.length<=s.length) (s:By) (v:JV) (r:By),H6 V s = .ok (v,r) ->
   okB O v/\r <:+ s/\r.length<s.length/\(Bz L v).length+r.length<=s.length:=by
  intro V L O hLO s v r h;unfold H6 at h;split at h
  ·cases h
  ·rename_i c t hs
   have q1:=fD s;have q2:(c::t) <:+ s:=hs ▸ aw s;rw[hs,adb] at q1;have q3:t <:+ s:=(List.suffix_cons _ _).trans q2;by_cases c1:c=123
   ·rw[if_pos c1] at h
    rcases hLO with ⟨rfl,rfl,rfl⟩ | ⟨W,M,Q,rfl,rfl,rfl,hW⟩
    ·cases h
    ·simp only at h
     split at h
     ·rename_i t' ht
      cases h;have q4:=fD t;have q5:(125::r) <:+ t:=ht ▸ aw t;rw[ht,adb] at q4;exact ⟨⟨.nil,fun m hm=>by cases hm⟩,(List.suffix_cons _ _).trans (q5.trans q3),by omega,by simp[Bz,eF]; omega⟩
     ·cases ho:wm W ((skp t).length+1) [] (skp t) with
      | error e=>rw[ho] at h; cases h
      | ok x =>
       obtain ⟨l,r'⟩:=x;rw[ho] at h;cases h;obtain ⟨o1,o2,o3,o4,o5⟩:=OR W M Q hW _ [] _ l r ho .nil (fun m hm=>by cases hm);have q4:=fD t;have q5:=aw t;refine ⟨⟨yM l o1,fun m hm=>o3 m ((jl l).mem_iff.1 hm)⟩,o4.trans (q5.trans q3),?_,?_⟩
       ·have:=o4.length_le
        omega
       ·have p1:=Tm M (jl l)
        have p2:szM M []=0:=rfl;cases hl:bt l with
        | nil=>exact absurd ((jl l).symm.trans (by rw[hl])).eq_nil o2
        | cons m l' =>
         have p3:=LU (fun m:Me=>quo m.1++58::M m.2.1) m l';rw[hl] at p1;unfold szM at p1 p2 o5;show (123::(eF _++[125])).length + _ <= _;rw[adb,adf,List.length_singleton];rw[<-p1,p2] at o5;have p4:=Nat.le_trans (Nat.add_le_add_right (Nat.le_of_eq p3) r.length) o5;have p5:∀ J:Nat,J+1+r.length<=0+(skp t).length->J+1+1+r.length<=s.length:=fun J hJ=>by omega
         exact p5 _ p4
   rw[if_neg c1] at h;by_cases c2:c=91
   ·rw[if_pos c2] at h
    rcases hLO with ⟨rfl,rfl,rfl⟩ | ⟨W,M,Q,rfl,rfl,rfl,hW⟩
    ·cases h
    ·simp only at h
     split at h
     ·rename_i t' ht
      cases h;have q4:=fD t;have q5:(93::r) <:+ t:=ht ▸ aw t;rw[ht,adb] at q4;exact ⟨(fun m hm=>by cases hm),(List.suffix_cons _ _).trans (q5.trans q3),by omega,by simp[Bz,eF]; omega⟩
     ·cases ho:ve W ((skp t).length+1) (skp t) with
      | error e=>rw[ho] at h; cases h
      | ok x =>
       obtain ⟨l,r'⟩:=x;rw[ho] at h;cases h;obtain ⟨o1,o2,o3⟩:=PM W M Q hW _ _ l r ho;have q4:=fD t;have q5:=aw t;refine ⟨o1,o2.trans (q5.trans q3),?_,?_⟩
       ·have:=o2.length_le
        omega
       ·show (91::(eF _++[93])).length + _ <= _
        rw[adb,adf,List.length_singleton];omega
   rw[if_neg c2] at h;by_cases c3:c=34
   ·rw[if_pos c3] at h
    split at h
    ·cases h
    ·rename_i tt r' ht
     cases h;obtain ⟨t1,t2,t3⟩:=yu t ht;exact ⟨t1,t2.trans q3,by omega,by simp[Bz,quo]; omega⟩
   rw[if_neg c3] at h;have word:∀ (w:By) (k:Nat) (v:JV),w.length=k+1->(c::t).take (k+1)=w->v = .null\/(∃ b,v = .bool b)->(Bz L v).length<=k+1->okB O v/\t.drop k <:+ s/\(t.drop k).length<s.length/\(Bz L v).length+(t.drop k).length<=s.length:=by
    intro w k v hw ht hv hl;have:k<=t.length:=by
     have e:=congrArg List.length ht;rw[hw] at e;simp at e;omega
    refine ⟨?_,(List.drop_suffix _ _).trans q3,by simp; omega,by simp; omega⟩;rcases hv with rfl | ⟨b,rfl⟩ <;> exact trivial
   by_cases c4:(c::t).take 4=[110,117,108,108]
   ·rw[if_pos c4] at h
    cases h;exact word _ 3 _ rfl c4 (.inl rfl) (Nat.le_refl _)
   rw[if_neg c4] at h;by_cases c5:(c::t).take 4=[116,114,117,101]
   ·rw[if_pos c5] at h
    cases h;exact word _ 3 _ rfl c5 (.inr ⟨_,rfl⟩) (Nat.le_refl _)
   rw[if_neg c5] at h;by_cases c6:(c::t).take 5=[102,97,108,115,101]
   ·rw[if_pos c6] at h
    cases h;exact word _ 4 _ rfl c6 (.inr ⟨_,rfl⟩) (Nat.le_refl _)
   rw[if_neg c6] at h;split at h
   ·cases h
   ·rename_i n r' hn
    cases h;obtain ⟨n1,n2,n3,n4⟩:=U1 hn;simp only[adb] at n3 n4;exact ⟨n1,n2.trans q2,by omega,by show (itoa n).length + _ <= _; omega⟩
 intro d;induction d with
 | zero=>exact base none none none (.inl ⟨rfl,rfl,rfl⟩)
 | succ d ih=>exact base (some (jF d)) (some (cg d)) (some (okV d)) (.inr ⟨_,_,_,rfl,rfl,rfl,ih⟩)
end Go.Vm
