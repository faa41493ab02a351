import Derived.Test.YtihpjgcbmipdbaaGreatDoorFprog2
import Derived.Test.YtihpjgcbmipdbaaGreatDoorPm3
import Derived.Lib.AtoiAllCases
import Derived.Test.YtihpjgcbmipdbaaGreatDoorFref23b
set_option linter.unusedVariables false
set_option linter.unusedSimpArgs false
namespace Go.Vm
open Go.Lib (decodeL decodeN decodeL_N decode_N decodeN_shape decodeL_le)
theorem SJ {α:Type} (l:List α) (k:Nat):idx l (k:Int)=l[k]? := by
 unfold idx;rw[if_pos (by omega)];simp
theorem SH {α:Type} (pre t:List α) (x:α):idx (pre++x::t) (pre.length:Int)=some x:=by
 rw[SJ]; simp
def my (r:Int):Nat->List Int->Int
 | _,[] => -1
 | k,x::t=>if x=r then (k:Int) else my r (k+1) t
theorem HV (l:List Int) (hl:l.length<=1000000000000) (v:Int):ae (fun F=>fY F (l,v)) (my v 0 l):=by
 have loop:∀ (t pre:List Int),l=pre++t -> ∃ y,ag dt (l,v,(l.length:Int),(pre.length:Int),()) y/\dq y (fun _=>(-1:Int)) (fun v=>v.1)=my v pre.length t:=by
  intro t;induction t with
  | nil =>
   intro pre h;simp only[List.append_nil] at h;subst h;refine ⟨.inl (),ag.fin (ae.of fun F => ?_),rfl⟩;unfold dt;simp
  | cons x t ih =>
   intro pre h;have hlen:l.length=pre.length+(t.length+1):=by rw[h]; simp
   have h1:(pre.length:Int)<(l.length:Int):=by omega
   have hi:idx l (pre.length:Int)=some x:=by rw[h]; exact SH pre t x
   simp only[my];by_cases he:x=v
   ·rw[if_pos he]
    refine ⟨.inr ((pre.length:Int),()),ag.fin (ae.of fun F => ?_),rfl⟩;unfold dt;simp[h1,hi,he]
   ·rw[if_neg he]
    obtain ⟨y,q1,q2⟩:=ih (pre++[x]) (by rw[h]; simp);refine ⟨y,ag.step (ae.of fun F => ?_) q1,by simpa using q2⟩;unfold dt;have I7:¬ v=x:=fun e=>he e.symm
    have hw:IntKind.i64.wrap ((pre.length:Int)+1)=((pre.length+1:Nat):Int):=by rw[wrap64 _ (by omega) (by omega)]; rfl
    simp[h1,hi,I7,hw]
 obtain ⟨y,h1,h2⟩:=loop l [] rfl;unfold fY;refine h1.run.bind ?_;refine ae.of fun F => ?_
 rw[<-(show _=my v 0 l from h2)];cases y <;> rfl
theorem xf (v:Int):∀ (l:List Int) (k:Nat),decide (0<=my v k l)=decide (v∈l)
 | [],k=>by simp[my]
 | x::t,k=>by
  unfold my;by_cases h:x=v
  ·rw[if_pos h]
   have:(0:Int)<=(k:Int):=by omega
   simp[this,h]
  ·rw[if_neg h,xf v t (k+1)]
   have h':¬ v=x:=fun e=>h e.symm
   simp[h']
theorem AO (l:List Int) (hl:l.length<=1000000000000) (v:Int):ae (fun F=>eX F (l,v)) (decide (v∈l)):=by
 unfold eX;refine (HV l hl v).bind ?_;exact ae.of fun F=>by rw[xf]
def Hl (sorts:List Int) (l:List Int):Bool:=l.all fun x=>decide (bw x∈sorts)
theorem Jp (s:B8) (sorts:List Int) (hl:sorts.length<=1000000000000):ae (fun F=>mz F (s,sorts)) (Hl sorts ((bF s).map (·.1))):=by
 have loop:∀ (n p:Nat),s.length-p<=n->p<=s.length ->
   ∃ y,ag jk (sorts,(),(s,p),()) y/\dq y (fun _=>true) (fun v=>v.1)=Hl sorts ((bF (s.drop p)).map (·.1)):=by
  intro n;induction n with
  | zero =>
   intro p hn hp;have hpe:p=s.length:=by omega
   subst hpe;refine ⟨.inl (),ag.fin (ae.of fun F => ?_),by rw[List.drop_length,fu]; rfl⟩;unfold jk;simp
  | succ n ih =>
   intro p hn hp;by_cases aH:p<s.length
   case neg=>exact ih p (by omega) hp
   have uB:=bH (s.drop p);have T6:=uK aH;rw[hQ (oe aH),qE];have hc:=AO sorts hl (bw ((decodeL (s.drop p)).1:Int));by_cases he:bw ((decodeL (s.drop p)).1:Int)∈sorts
   ·obtain ⟨y,h1,h2⟩:=ih (p+(decodeL (s.drop p)).2) (by omega) T6
    refine ⟨y,ag.step ?_ h1,by rw[h2]; simp[Hl,he]⟩;unfold jk;simp only[aH,decide_true,if_true,mc,ada,jI,gu];refine hc.bind ?_;exact ae.of fun F=>by simp[he]
   ·refine ⟨.inr (false,()),ag.fin ?_,by simp[Hl,he,dq]⟩
    unfold jk;simp only[aH,decide_true,if_true,mc,ada,jI,gu];refine hc.bind ?_;exact ae.of fun F=>by simp[he]
 obtain ⟨y,h1,h2⟩:=loop s.length 0 (by omega) (by omega);unfold mz;refine h1.run.bind ?_;refine ae.of fun F => ?_
 rw[List.drop_zero] at h2;rw[<-h2];cases y <;> rfl
theorem NA (s:B8) (hs:s.length<=100000000000) (p:Nat) (hp:p<=s.length) (k:Nat) (hk:k+(s.length-p)<=1000000000000):ag gP ((k:Int),(),(s,p),()) (((k+(bF (s.drop p)).length:Nat):Int),()):=by
 have main:∀ n p k,s.length-p<=n->p<=s.length->k+(s.length-p)<=1000000000000->ag gP ((k:Int),(),(s,p),()) (((k+(bF (s.drop p)).length:Nat):Int),()):=by
  intro n;induction n with
  | zero =>
   intro p k hn hp hk;have:p=s.length:=by omega
   subst this;refine ag.fin (ae.of fun F => ?_);unfold gP;simp[fu]
  | succ n ih =>
   intro p k hn hp hk;by_cases aH:p<s.length
   ·have uB:=bH (s.drop p)
    have T6:=uK aH;rw[hQ (oe aH),qE];refine ag.step (x':=(((k+1:Nat):Int),(),(s,p+(decodeL (s.drop p)).2),())) (ae.of fun F => ?_) ?_
    ·have w:IntKind.i64.wrap ((k:Int)+1)=((k+1:Nat):Int):=by rw[wrap64 _ (by omega) (by omega)]; rfl
     unfold gP;simp only[aH,decide_true,if_true,gu,w]
    ·have:=ih (p+(decodeL (s.drop p)).2) (k+1) (by omega) T6 (by omega)
     rw[adb,show k+((bF (List.drop (p+(decodeL (List.drop p s)).2) s)).length+1)=k+1+(bF (List.drop (p+(decodeL (List.drop p s)).2) s)).length by omega];exact this
   ·have:p=s.length:=by omega
    subst this;refine ag.fin (ae.of fun F => ?_);unfold gP;simp[fu]
 exact main _ p k (Nat.le_refl _) hp hk
theorem Io (s:B8) (hs:s.length<=100000000000):ae (fun F=>nQ F s) ((bF s).length:Int):=by
 unfold nQ;have:=NA s hs 0 (by omega) 0 (by omega);rw[List.drop_zero,Nat.zero_add] at this;exact this.run.bind (k:=fun F (v1:Int×Unit)=>some v1.1) (ae.of fun F=>rfl)
end Go.Vm
namespace Go.Vm
open Go.Proofs
open Go.Lib (decDigits itoa)
theorem XG (x:By):decide (Lib.indexByte x 59<0)=x.all (fun c=>c != 59):=by
 have hg:=Lib.indexByte_ge x 59;by_cases h:Lib.indexByte x 59<0
 ·rw[adg h]
  have hm:Lib.indexByte x 59 = -1:=by omega
  symm
  rw[List.all_eq_true];intro c hc;obtain ⟨k,hk⟩:=List.getElem?_of_mem hc;have:=Lib.indexByte_none hm k;rw[bne_iff_ne]
  rintro rfl
  exact this hk
 ·rw[adh h]
  obtain ⟨o,ho⟩:∃ o:Nat,Lib.indexByte x 59=o:=⟨(Lib.indexByte x 59).toNat,by omega⟩
  have h1:=(Lib.indexByte_some ho).1
  symm
  rw[List.all_eq_false];exact ⟨59,List.mem_of_getElem? h1,by decide⟩
theorem Lm (x:By) (hx:x.length<=1000):ae (fun F=>mO F x) (pC x):=by
 unfold mO pC;have hi:∀ F,aL F (x,59)=some (Lib.indexByte x 59):=fun F=>rfl
 have h9:=XG x;by_cases h:Lib.indexByte x 59<0
 ·rw[adg h] at h9
  rw[<-h9,Bool.true_and];refine ae.bind (r:=((tW x,()):Bool×Unit)) (ae.bind (.of hi) (ae.pos (adg h) (ae.bind (Sk x hx) (.ret _)))) (.ret _)
 ·rw[adh h] at h9
  rw[<-h9,Bool.false_and];refine ae.bind (r:=((false,()):Bool×Unit)) (ae.bind (.of hi) (ae.neg (by rw[ac9]; exact h) (.ret _))) (.ret _)
def wj (p:PhT):Prop:=p.2.1.length<=1000/\p.2.2.2.1.length<=1000
theorem SM (p:PhT) (hp:wj p):ae (fun F=>oo F p) (gO p):=by
 obtain ⟨k,nm,n,t,u⟩:=p;obtain ⟨hn,ht⟩:=hp;simp only at hn ht;unfold oo gO;simp only;by_cases k1:k=1
 ·rw[if_pos k1]
  refine ae.pos (adg k1) (.of fun F => ?_);by_cases c1:1<=n
  ·by_cases c2:n<=80
   ·have hlen:nm.length+t.length<=9223372036854775807:=by omega
    rw[if_pos (adg c1)];simp only[ada,adg c2,if_true,adg hlen];by_cases c3:nm=[] <;> by_cases c4:t=[] <;> simp[c1,c3,c4]
   ·simp[c1,c2]
  ·simp[c1]
 rw[if_neg k1];refine ae.neg (by rw[ac9]; exact k1) ?_;by_cases k2:k=2
 ·rw[if_pos k2]
  refine ae.pos (adg k2) (.of fun F => ?_);simp only[F1];by_cases c1:1<=n
  ·by_cases c2:n<=1073741824
   ·cases zF:nmP nm <;> simp[c1,c2,zF]
   ·simp[c1,c2]
  ·simp[c1]
 rw[if_neg k2];refine ae.neg (by rw[ac9]; exact k2) ?_;by_cases k3:k=3
 ·rw[if_pos k3]
  refine ae.pos (adg k3) ?_;refine ae.bind (r:=(((),decide (n=0)&&nmP nm,(k,nm,n,t,()),()):Unit×Bool×PhT×Unit)) (.of fun F=>by
   simp only[F1];by_cases c1:n=0 <;> simp[c1]) ?_
  refine ae.bind (r:=(((decide (n=0)&&nmP nm)&&pC t,()):Bool×Unit)) ?_ (.ret _);cases hb:(decide (n=0)&&nmP nm) with
  | true=>exact ae.pos rfl (ae.bind (Lm t ht) (.ret _))
  | false=>exact ae.neg adj (.ret _)
 rw[if_neg k3];refine ae.neg (by rw[ac9]; exact k3) ?_;by_cases k4:k=4
 ·rw[if_pos k4]
  refine ae.pos (adg k4) ?_;refine ae.bind (r:=(((),decide (n=200) || decide (n=201),(k,nm,n,t,()),()):Unit×Bool×PhT×Unit)) (.of fun F=>by
   by_cases c1:n=200 <;> simp[c1]) ?_
  refine ae.bind (r:=(((),(decide (n=200) || decide (n=201))&&decide (nm=[]),(k,nm,n,t,()),()):Unit×Bool×PhT×Unit)) (.of fun F=>by
   cases hb:(decide (n=200) || decide (n=201)) <;> simp[hb]) ?_
  refine ae.bind (r:=((((decide (n=200) || decide (n=201))&&decide (nm=[]))&&pC t,()):Bool×Unit)) ?_ (.ret _);cases hb:((decide (n=200) || decide (n=201))&&decide (nm=[])) with
  | true=>exact ae.pos rfl (ae.bind (Lm t ht) (.ret _))
  | false=>exact ae.neg adj (.ret _)
 ·rw[if_neg k4]
  exact ae.neg (by rw[ac9]; exact k4) (.ret _)
theorem w6 {α:Type} (l:List α) (i:Nat) (h:i<l.length):(l.drop (i+1)=[]) ↔ i=l.length-1:=by
 rw[List.drop_eq_nil_iff];omega
theorem EO (l:List PhT) (hl:l.length<=1000000) (hb:∀ p∈l,wj p):∀ (n i:Nat),i+n=l.length->ag kf (l,l,(l.length:Int),(i:Int),()) (if zV (l.drop i)=true then .inl () else .inr (false,()))
 | 0,i,h=>by
  refine ag.fin (.of fun F => ?_);unfold kf;rw[if_neg (by rw[ac9]; simp only; omega),List.drop_eq_nil_of_le (by omega)];rfl
 | n+1,i,h=>by
  have hi:i<l.length:=by omega
  have hx:idx l (i:Int)=some l[i]:=bU _ _ _ (adl hi);have hw:IntKind.i64.wrap ((i:Int)+1)=((i+1:Nat):Int):=by rw[wrap64 _ (by omega) (by omega)]; omega
  have UZ:IntKind.i64.wrap ((l.length:Int)-1)=((l.length-1:Nat):Int):=by rw[wrap64 _ (by omega) (by omega)]; omega
  have ih:=EO l hl hb n (i+1) (by omega);have hr:=SM l[i] (hb _ (List.getElem_mem hi));have hd:=w6 l i hi;rw[ado hi];generalize l[i]=p at *
  have hk:decide (l.drop (i+1)=[])=decide ((i:Int)=((l.length-1:Nat):Int)):=by
   rw[Bool.eq_iff_iff,ac9,ac9,hd]; omega
  have e:zV (p::l.drop (i+1))=(gO p&&(decide (p.1=4) == decide ((i:Int)=((l.length-1:Nat):Int)))&&zV (l.drop (i+1))):=by rw[<-hk]; rfl
  rw[e];have cO:ae (fun F=>kf F (l,l,(l.length:Int),(i:Int),())) (if (gO p&&(decide (p.1=4) == decide ((i:Int)=((l.length-1:Nat):Int))))=true then .inl (l,l,(l.length:Int),((i+1:Nat):Int),()) else .inr (.inr (false,()))):=by
   unfold kf;refine ae.pos (by rw[ac9]; simp only; omega) ?_;refine ae.bind (.of fun F=>hx) ?_;refine ae.bind (r:=((l,l,(l.length:Int),(i:Int),!(gO p&&(decide (p.1=4) == decide ((i:Int)=((l.length-1:Nat):Int)))),()):List PhT×List PhT×Int×Int×Bool×Unit)) (ae.bind hr ?_) ?_
   ·cases Uc:gO p with
    | true=>exact .of fun F=>by simp[UZ]
    | false=>exact .of fun F=>by simp
   ·cases Uc:(gO p&&(decide (p.1=4) == decide ((i:Int)=((l.length-1:Nat):Int)))) with
    | true=>exact ae.neg (by simp) (.of fun F=>by simp[hw])
    | false=>exact ae.pos (by simp) (.of fun F=>by simp)
  cases Uc:(gO p&&(decide (p.1=4) == decide ((i:Int)=((l.length-1:Nat):Int)))) with
  | true =>
   rw[Uc,if_pos rfl] at cO;rw[Bool.true_and];exact ag.step cO ih
  | false =>
   rw[Uc,if_neg adj] at cO;rw[Bool.false_and,if_neg adj];exact ag.fin cO
theorem Vi (l:List PhT) (hl:l.length<=1000000) (hb:∀ p∈l,wj p):ae (fun F=>qZ F l) (zP l):=by
 unfold qZ zP;refine ae.bind (r:=((l,!(decide (1<=l.length)&&decide (l.length<=5)),()):List PhT×Bool×Unit)) (.of fun F => ?_) ?_
 ·by_cases h0:l.length=0
  ·rw[if_neg (by rw[adg (by omega)]; decide),adh (by omega)]
   rfl
  ·rw[if_pos (adh (by omega)),adg (by omega:1<=l.length),Bool.true_and]
   by_cases h5:l.length<=5
   ·rw[adh (by omega),adg h5]; rfl
   ·rw[adg (by omega),adh h5]; rfl
 cases hc:(decide (1<=l.length)&&decide (l.length<=5)) with
 | false=>exact ae.pos rfl (.ret _)
 | true =>
  refine ae.neg (by simp) ?_;have h:=EO l hl hb l.length 0 (by omega);rw[List.drop_zero] at h;refine ae.bind h.run ?_;rw[Bool.true_and];cases zV l <;> exact .ret _
end Go.Vm
namespace Go.Vm
open Go.Proofs
open Go.Lib (decDigits itoa)
theorem Pk {s:By} (h:nmP s=true):s.length<=12:=by
 unfold nmP at h;simp only[adi,ac9] at h;exact h.2
theorem D4 {s:By} (h:pC s=true):s.length<=60:=by
 unfold pC tW at h;simp only[adi,ac9] at h;exact h.2.1
end Go.Vm
namespace Go.Vm
open Go.Proofs
open Go.Lib (decDigits itoa)
theorem BJ (x:By) (hx:x.length<=1000):∀ (n i:Nat),i+n=x.length->ag dW (x,(i:Int),()) (if (x.drop i).all (fun c=>c != 59)=true then .inl (x,()) else .inr (false,()))
 | 0,i,h=>by
  refine ag.fin (.of fun F => ?_);unfold dW;rw[if_neg (by rw[ac9]; simp only; omega),List.drop_eq_nil_of_le (by omega)];rfl
 | n+1,i,h=>by
  have hi:i<x.length:=by omega
  have yn:idx x (i:Int)=some x[i]:=bU _ _ _ (adl hi);have hw:IntKind.i64.wrap ((i:Int)+1)=((i+1:Nat):Int):=by rw[wrap64 _ (by omega) (by omega)]; omega
  have ih:=BJ x hx n (i+1) (by omega);rw[ado hi,List.all_cons];generalize x[i]=c at *
  have n59:((c.toNat:Int)=59)=(c=59):=nvB c 59;by_cases hc:c=59
  ·have e:(c != 59)=false:=by rw[hc]; rfl
   rw[e,Bool.false_and];refine ag.fin (.of fun F => ?_);unfold dW;rw[if_pos (by rw[ac9]; simp only; omega)];simp only[yn,ada,n59,adg hc];rfl
  ·have e:(c != 59)=true:=by rw[bne_iff_ne]; exact hc
   rw[e,Bool.true_and];refine ag.step (.of fun F => ?_) ih;unfold dW;rw[if_pos (by rw[ac9]; simp only; omega)];simp only[yn,ada,n59,adh hc,ade,if_false,hw]
theorem Lz (x:By) (hx:x.length<=1000):ae (fun F=>fg F x) (pC x):=by
 unfold fg pC;have h:=BJ x hx x.length 0 (by omega);rw[List.drop_zero] at h;refine ae.bind h.run ?_;by_cases ha:x.all (fun c=>c != 59)=true
 ·rw[if_pos ha,ha,Bool.true_and]
  exact ae.bind (Dx x hx) (.ret _)
 ·have RY:x.all (fun c=>c != 59)=false:=by simpa using ha
  rw[if_neg ha,RY,Bool.false_and];exact .ret _
theorem OL (p:PhT) (hp:wj p):ae (fun F=>fZ F p) (gO p):=by
 obtain ⟨k,nm,n,t,u⟩:=p;obtain ⟨hn,ht⟩:=hp;simp only at hn ht;unfold fZ gO;simp only;by_cases k1:k=1
 ·rw[if_pos k1]
  refine ae.pos (adg k1) (.of fun F => ?_);by_cases c1:1<=n
  ·by_cases c2:n<=80
   ·by_cases c3:nm=[] <;> by_cases c4:t=[] <;> simp[c1,c2,c3,c4]
   ·simp[c1,c2]
  ·simp[c1]
 rw[if_neg k1];refine ae.neg (by rw[ac9]; exact k1) ?_;by_cases k2:k=2
 ·rw[if_pos k2]
  refine ae.pos (adg k2) ?_;refine ae.bind (r:=(((),decide (1<=n)&&decide (n<=1073741824),(k,nm,n,t,()),()):Unit×Bool×PhT×Unit)) (.of fun F=>by
   by_cases c1:1<=n <;> simp[c1]) ?_
  refine ae.bind (r:=(((),(decide (1<=n)&&decide (n<=1073741824))&&nmP nm,(k,nm,n,t,()),()):Unit×Bool×PhT×Unit)) ?_ ?_
  ·cases hb:(decide (1<=n)&&decide (n<=1073741824)) with
   | true=>exact ae.pos rfl (ae.bind (Cs nm (by omega)) (.ret _))
   | false=>exact ae.neg adj (.ret _)
  ·refine .of fun F => ?_
   cases hb:((decide (1<=n)&&decide (n<=1073741824))&&nmP nm) <;> simp
 rw[if_neg k2];refine ae.neg (by rw[ac9]; exact k2) ?_;by_cases k3:k=3
 ·rw[if_pos k3]
  refine ae.pos (adg k3) ?_;refine ae.bind (r:=(((),decide (n=0)&&nmP nm,(k,nm,n,t,()),()):Unit×Bool×PhT×Unit)) ?_ ?_
  ·by_cases c1:n=0
   ·rw[adg c1,Bool.true_and]
    exact ae.pos rfl (ae.bind (Cs nm (by omega)) (.ret _))
   ·rw[adh c1,Bool.false_and]
    exact ae.neg adj (.ret _)
  refine ae.bind (r:=(((decide (n=0)&&nmP nm)&&pC t,()):Bool×Unit)) ?_ (.ret _);cases hb:(decide (n=0)&&nmP nm) with
  | true=>exact ae.pos rfl (ae.bind (Lz t ht) (.ret _))
  | false=>exact ae.neg adj (.ret _)
 rw[if_neg k3];refine ae.neg (by rw[ac9]; exact k3) ?_;by_cases k4:k=4
 ·rw[if_pos k4]
  refine ae.bind (r:=(((),decide (n=200) || decide (n=201),(k,nm,n,t,()),()):Unit×Bool×PhT×Unit)) (ae.pos (adg k4) (.of fun F=>by
   by_cases c1:n=200 <;> simp[c1])) ?_
  refine ae.bind (r:=(((),(decide (n=200) || decide (n=201))&&decide (nm=[]),(k,nm,n,t,()),()):Unit×Bool×PhT×Unit)) (.of fun F=>by
   cases hb:(decide (n=200) || decide (n=201)) <;> simp[hb]) ?_
  refine ae.bind (r:=((((decide (n=200) || decide (n=201))&&decide (nm=[]))&&pC t,()):Bool×Unit)) ?_ (.ret _);cases hb:((decide (n=200) || decide (n=201))&&decide (nm=[])) with
  | true=>exact ae.pos rfl (ae.bind (Lz t ht) (.ret _))
  | false=>exact ae.neg adj (.ret _)
 ·rw[if_neg k4]
  refine ae.bind (r:=(((),false,(k,nm,n,t,()),()):Unit×Bool×PhT×Unit)) (ae.neg (by rw[ac9]; exact k4) (.ret _)) (.of fun F=>rfl)
theorem EA (l:List PhT) (hl:l.length<=1000000) (hb:∀ p∈l,wj p):∀ (n i:Nat),i+n=l.length->ag eE (l,(i:Int),()) (if zV (l.drop i)=true then .inl () else .inr (false,()))
 | 0,i,h=>by
  refine ag.fin (.of fun F => ?_);unfold eE;rw[if_neg (by rw[ac9]; simp only; omega),List.drop_eq_nil_of_le (by omega)];rfl
 | n+1,i,h=>by
  have hi:i<l.length:=by omega
  have hx:idx l (i:Int)=some l[i]:=bU _ _ _ (adl hi);have hw:IntKind.i64.wrap ((i:Int)+1)=((i+1:Nat):Int):=by rw[wrap64 _ (by omega) (by omega)]; omega
  have UZ:IntKind.i64.wrap ((l.length:Int)-1)=((l.length-1:Nat):Int):=by rw[wrap64 _ (by omega) (by omega)]; omega
  have ih:=EA l hl hb n (i+1) (by omega);have hr:=OL l[i] (hb _ (List.getElem_mem hi));have hd:=w6 l i hi;rw[ado hi];generalize l[i]=p at *
  have hk:decide (l.drop (i+1)=[])=decide ((i:Int)=((l.length-1:Nat):Int)):=by
   rw[Bool.eq_iff_iff,ac9,ac9,hd]; omega
  have e:zV (p::l.drop (i+1))=(gO p&&(decide (p.1=4) == decide ((i:Int)=((l.length-1:Nat):Int)))&&zV (l.drop (i+1))):=by rw[<-hk]; rfl
  rw[e];have cO:ae (fun F=>eE F (l,(i:Int),())) (if (gO p&&(decide (p.1=4) == decide ((i:Int)=((l.length-1:Nat):Int))))=true then .inl (l,((i+1:Nat):Int),()) else .inr (.inr (false,()))):=by
   unfold eE;refine ae.pos (by rw[ac9]; simp only; omega) ?_;refine ae.bind (r:=((l,(i:Int),!(gO p&&(decide (p.1=4) == decide ((i:Int)=((l.length-1:Nat):Int)))),()):List PhT×Int×Bool×Unit)) (ae.bind (.of fun F=>hx) (ae.bind hr ?_)) ?_
   ·cases Uc:gO p with
    | true=>exact .of fun F=>by simp[UZ,hx]
    | false=>exact .of fun F=>by simp
   ·cases Uc:(gO p&&(decide (p.1=4) == decide ((i:Int)=((l.length-1:Nat):Int)))) with
    | true=>exact ae.neg (by simp) (.of fun F=>by simp[hw])
    | false=>exact ae.pos (by simp) (.of fun F=>by simp)
  cases Uc:(gO p&&(decide (p.1=4) == decide ((i:Int)=((l.length-1:Nat):Int)))) with
  | true =>
   rw[Uc,if_pos rfl] at cO;rw[Bool.true_and];exact ag.step cO ih
  | false =>
   rw[Uc,if_neg adj] at cO;rw[Bool.false_and,if_neg adj];exact ag.fin cO
theorem Vw (l:List PhT) (hl:l.length<=1000000) (hb:∀ p∈l,wj p):ae (fun F=>hP F l) (zP l):=by
 unfold hP zP;refine ae.bind (r:=((l,!(decide (1<=l.length)&&decide (l.length<=5)),()):List PhT×Bool×Unit)) (.of fun F => ?_) ?_
 ·by_cases h0:l.length=0
  ·rw[if_neg (by rw[adg (by omega)]; decide),adh (by omega)]
   rfl
  ·rw[if_pos (adh (by omega)),adg (by omega:1<=l.length),Bool.true_and]
   by_cases h5:l.length<=5
   ·rw[adh (by omega),adg h5]; rfl
   ·rw[adg (by omega),adh h5]; rfl
 cases hc:(decide (1<=l.length)&&decide (l.length<=5)) with
 | false=>exact ae.pos rfl (.ret _)
 | true =>
  refine ae.neg (by simp) ?_;have h:=EA l hl hb l.length 0 (by omega);rw[List.drop_zero] at h;refine ae.bind h.run ?_;rw[Bool.true_and];cases zV l <;> exact .ret _
end Go.Vm
namespace Go.Vm
open Go.Proofs
open Go.Lib (decDigits itoa)
end Go.Vm
namespace Go.Vm
open Go.Proofs
open Go.Lib (decodeL decodeN decodeL_N decode_N decodeN_shape decodeL_le)
def jZ (e:EnT):Bool:=decide (e.key.length<=100)&&decide (e.2.2.2.2.2.2.1.length<=100)&&decide (e.2.2.2.2.2.2.2.2.2.2.1.length<=100)&&decide (e.method.length<=100)&&decide (e.path.length<=100)&&decide (e.body.length<=100)
theorem P3 (e:EnT) (h:jZ e=true):e.key.length<=1000/\e.method.length<=1000/\e.path.length<=1000/\e.body.length<=1000:=by
 unfold jZ at h;simp only[adi,ac9] at h;omega
theorem Ay (l:List (Int×EnT)) (hl:l.length<=1000000):∀ (n i:Nat),i+n=l.length->ag dw (l,(l.length:Int),(i:Int),()) (if (l.drop i).all (fun r=>jZ r.2)=true then .inl () else .inr (false,()))
 | 0,i,h=>by
  refine ag.fin (.of fun F => ?_);unfold dw;rw[if_neg (by rw[ac9]; simp only; omega),List.drop_eq_nil_of_le (by omega)];rfl
 | n+1,i,h=>by
  have hi:i<l.length:=by omega
  have hx:idx l (i:Int)=some l[i]:=bU _ _ _ (adl hi);have hw:IntKind.i64.wrap ((i:Int)+1)=((i+1:Nat):Int):=by rw[wrap64 _ (by omega) (by omega)]; omega
  have ih:=Ay l hl n (i+1) (by omega);rw[ado hi,List.all_cons];generalize l[i]=m at *
  obtain ⟨k,te,key,st,ep,tok,po,pr,le,ex,sta,tx,me,pa,bo,u⟩:=m;have body:∀ F,dw F (l,(l.length:Int),(i:Int),())=some (if jZ (te,key,st,ep,tok,po,pr,le,ex,sta,tx,me,pa,bo,u)=true then .inl (l,(l.length:Int),((i+1:Nat):Int),()) else .inr (.inr (false,()))):=by
   intro F;unfold dw jZ;rw[if_pos (by rw[ac9]; simp only; omega)];have e1:∀ a:By,(100:Int)<(a.length:Int) ↔ ¬ a.length<=100:=fun a=>by omega
   simp only[hx,ada,e1];by_cases a1:key.length<=100
   ·by_cases a2:pr.length<=100
    ·by_cases a3:tx.length<=100
     ·by_cases a4:me.length<=100
      ·by_cases a5:pa.length<=100
       ·by_cases a6:bo.length<=100
        ·simp[a1,a2,a3,a4,a5,a6,hw]
        ·simp[a1,a2,a3,a4,a5,a6,hw]
       ·simp[a1,a2,a3,a4,a5,hw]
      ·simp[a1,a2,a3,a4,hw]
     ·simp[a1,a2,a3,hw]
    ·simp[a1,a2,hw]
   ·simp[a1,hw]
  by_cases hc:jZ (te,key,st,ep,tok,po,pr,le,ex,sta,tx,me,pa,bo,u)=true
  ·rw[hc,Bool.true_and]
   exact ag.step (.of fun F=>(body F).trans (by rw[if_pos hc])) ih
  ·have yh:jZ (te,key,st,ep,tok,po,pr,le,ex,sta,tx,me,pa,bo,u)=false:=by simpa using hc
   rw[yh,Bool.false_and];exact ag.fin (.of fun F=>(body F).trans (by rw[if_neg hc]; rfl))
theorem Tf (l:List (Int×EnT)) (most:Int) (hl:l.length<=1000000):ae (fun F=>eK F (l,most)) (decide ((l.length:Int)<=most)&&l.all fun r=>jZ r.2):=by
 unfold eK;by_cases hm:most<(l.length:Int)
 ·rw[adh (p:=(l.length:Int)<=most) (by omega),Bool.false_and]
  exact ae.pos (adg hm) (.ret _)
 rw[adg (p:=(l.length:Int)<=most) (by omega),Bool.true_and];refine ae.neg (by rw[ac9]; exact hm) ?_;have h:=Ay l hl l.length 0 (by omega);rw[List.drop_zero] at h;refine ae.bind h.run ?_;by_cases ha:(l.all fun r=>jZ r.2)=true
 ·rw[if_pos ha,ha]; exact .ret _
 ·have RY:(l.all fun r=>jZ r.2)=false:=by simpa using ha
  rw[if_neg ha,RY]; exact .ret _
end Go.Vm
