import Derived.Test.YtihpjgcbmipdbaaGreatDoorPu2
import Derived.Test.YtihpjgcbmipdbaaGreatDoorFcanon
set_option linter.unusedVariables false
set_option linter.unusedSimpArgs false
namespace Go.Vm
open Go.Lib (decodeL decodeN decodeL_N decode_N decodeN_shape decodeL_le)
theorem MU (s:B8) (hs:s.length<=1000000000000) (p:Nat) (hp:p<=s.length) (out at':List Int) (ho:out.length+(s.length-p)<=1000000000000) (ha:at'.length+(s.length-p)<=1000000000000) :
  ag cq (s,(),(),(p:Int),out,at',()) ((),(),out++(bF (s.drop p)).map (·.1),at'++ats p (bF (s.drop p)),()):=by
 have main:∀ n p out at',s.length-p<=n->p<=s.length->out.length+(s.length-p)<=1000000000000->at'.length+(s.length-p)<=1000000000000 ->
   ag cq (s,(),(),(p:Int),out,at',()) ((),(),out++(bF (s.drop p)).map (·.1),at'++ats p (bF (s.drop p)),()):=by
  intro n;induction n with
  | zero =>
   intro p out at' hn hp ho ha;have:p=s.length:=by omega
   subst this;refine ag.fin (ae.of fun F => ?_);unfold cq;have h:¬ ((s.length:Nat):Int)<(s.length:Int):=by omega
   simp[h,fu,ats]
  | succ n ih =>
   intro p out at' hn hp ho ha;by_cases aH:p<s.length
   ·have uB:=bH (s.drop p)
    have T6:=uK aH;have h:(p:Int)<(s.length:Int):=by omega
    have e1:((out.length:Int)+1)*8<=140737488355328:=by omega
    have e2:((at'.length:Int)+1)*8<=140737488355328:=by omega
    rw[hQ (oe aH),qE];refine ag.step (x':=(s,(),(),((p+(decodeL (s.drop p)).2:Nat):Int),out++[((decodeL (s.drop p)).1:Int)],at'++[(p:Int)],())) (ae.of fun F => ?_) ?_
    ·unfold cq
     have e1':(out.length+1)*8<=140737488355328:=by omega
     have e2':(at'.length+1)*8<=140737488355328:=by omega
     simp only[h,decide_true,if_true,hZ s p hp,ada,Hm F _ (oe aH),adb,List.length_nil,Nat.zero_add,e1',e2'];rw[wrap64 _ (by omega) (by omega)];rfl
    ·have:=ih (p+(decodeL (s.drop p)).2) (out++[((decodeL (s.drop p)).1:Int)]) (at'++[(p:Int)]) (by omega) T6 (by simp; omega) (by simp; omega)
     simpa[ats,PD aH] using this
   ·have:p=s.length:=by omega
    subst this;refine ag.fin (ae.of fun F => ?_);unfold cq;have h:¬ ((s.length:Nat):Int)<(s.length:Int):=by omega
    simp[h,fu,ats]
 exact main _ p out at' (Nat.le_refl _) hp ho ha
theorem mQ (s:B8) (hs:s.length<=1000000000000):ae (fun F=>bM F s) ((bF s).map (·.1),ats 0 (bF s)):=by
 unfold bM;have:=MU s hs 0 (by omega) [] [] (by simp; omega) (by simp; omega);refine this.run.bind ?_;exact ae.of fun F=>by simp
end Go.Vm
namespace Go.Vm
theorem xg (F:Nat) (r a b c:Int):fx F (r,a,b,c)=some (decide (a<=r/\r<=b/\r≠c)):=by
 unfold fx;simp only[xm,ada,ac9]
 repeat' split
 all_goals (rw[Option.some.injEq,Bool.eq_iff_iff]; simp only[Bool.not_eq_true',ac9,decide_eq_false_iff_not,ade,true_iff,false_iff]; first | omega | (simp_all; done))
theorem HO (F:Nat) (r:Int):fC F r=some (decide (0<=r/\(r<55296\/57343<r)/\r<=1114111)):=by
 unfold fC;simp only[xm,ada,ac9,ade,if_false]
 repeat' split
 all_goals (rw[Option.some.injEq,Bool.eq_iff_iff]; simp only[Bool.not_eq_true',ac9,decide_eq_false_iff_not,ade,true_iff,false_iff]; omega)
theorem KO (F:Nat) (r:Int):lJ F r=some (decide (r<32\/(127<=r/\r<=159)\/r=65533\/(55296<=r/\r<=57343)\/1114111<r)):=by
 unfold lJ;simp only[xg,HO,xm,ada,ac9,decide_eq_false_iff_not,Bool.true_eq_false,if_false]
 repeat' split
 all_goals (rw[Option.some.injEq,Bool.eq_iff_iff]; simp only[Bool.not_eq_true',ac9,decide_eq_false_iff_not,ade,true_iff,false_iff]; omega)
theorem P7 (F:Nat) (r:Int):oc F r=some (decide (r=32\/r=160\/(8192<=r/\r<=8202)\/r=12288)):=by
 unfold oc;simp only[xg,HO,xm,ada,ac9,decide_eq_false_iff_not,Bool.true_eq_false,if_false]
 repeat' split
 all_goals (rw[Option.some.injEq,Bool.eq_iff_iff]; simp only[Bool.not_eq_true',ac9,decide_eq_false_iff_not,ade,true_iff,false_iff]; omega)
theorem N5 (F:Nat) (r:Int):mi F r=some (decide ((65<=r/\r<=90)\/(97<=r/\r<=122)\/(192<=r/\r<=591/\r≠215/\r≠247)\/(913<=r/\r<=969/\r≠930))):=by
 unfold mi;simp only[xg,cK,cL,ite_self,ada,Bool.if_true_right,Bool.if_true_left,Bool.if_false_left,Bool.if_false_right,Option.some.injEq];rw[Bool.eq_iff_iff];simp;omega
def bw (n:Int):Int :=
 if n<32\/(127<=n/\n<=159)\/n=65533\/(55296<=n/\n<=57343)\/1114111<n then 0
 else if n=32\/n=160\/(8192<=n/\n<=8202)\/n=12288 then 1
 else if 48<=n/\n<=57 then 2
 else if (65<=n/\n<=90)\/(97<=n/\n<=122)\/(192<=n/\n<=591/\n≠215/\n≠247)\/(913<=n/\n<=969/\n≠930) then 3 else 4
theorem mc (F:Nat) (r:Int):iA F r=some (bw r):=by
 unfold iA bw;simp only[KO,P7,xg,N5,ada,ac9]
 repeat' split
 all_goals first | rfl | omega
theorem kx (F:Nat) (n:Int):bX F n=some (bw n):=by
 unfold bX bw;simp only[cK,cL,ite_self,ada,Option.some.injEq];simp only[Bool.if_true_right,Bool.if_true_left,Bool.if_false_left,Bool.if_false_right,adi,Bool.or_eq_true,Bool.not_eq_true',ac9,decide_eq_false_iff_not];simp
 repeat' split
 all_goals first | rfl | omega
end Go.Vm
namespace Go.Vm
open Go.Lib (decodeL decodeN decodeL_N decode_N decodeN_shape decodeL_le)
def Xp (l:List Int):Bool:=l.any fun n=>decide (bw n=0)
def EZ (l:List Int):Unit ⊕ Bool×Unit:=if Xp l=true then .inr (false,()) else .inl ()
theorem xM:EZ [] = .inl ():=rfl
theorem DA (n:Int) (l:List Int):EZ (n::l)=if bw n=0 then .inr (false,()) else EZ l:=by
 unfold EZ Xp;by_cases h:bw n=0 <;> simp[h]
theorem MK (s:B8) (p:Nat) (hp:p<=s.length):ag fL ((),(s,p),()) (EZ ((bF (s.drop p)).map (·.1))):=by
 have main:∀ n p,s.length-p<=n->p<=s.length->ag fL ((),(s,p),()) (EZ ((bF (s.drop p)).map (·.1))):=by
  intro n;induction n with
  | zero =>
   intro p hn hp;have:p=s.length:=by omega
   subst this;refine ag.fin (ae.of fun F => ?_);unfold fL;simp[fu,xM]
  | succ n ih =>
   intro p hn hp;by_cases aH:p<s.length
   ·have uB:=bH (s.drop p)
    have T6:=uK aH;rw[hQ (oe aH),qE,List.map_cons,DA];by_cases h0:bw ((decodeL (s.drop p)).1:Int)=0
    ·refine ag.fin (ae.of fun F => ?_)
     unfold fL;simp only[aH,decide_true,if_true,jI,mc,ada,h0]
    ·rw[if_neg h0]
     refine ag.step (x':=((),(s,p+(decodeL (s.drop p)).2),())) (ae.of fun F => ?_) (ih _ (by omega) T6);unfold fL;simp only[aH,decide_true,if_true,jI,gu,mc,ada,h0,decide_false,ade,if_false]
   ·have:p=s.length:=by omega
    subst this;refine ag.fin (ae.of fun F => ?_);unfold fL;simp[fu,xM]
 exact main _ p (Nat.le_refl _) hp
theorem Fx (ns:List Int) (hn:ns.length<=1000000000000) (k:Nat) (hk:k<=ns.length):ag bJ (ns,(k:Int),()) (EZ (ns.drop k)):=by
 have main:∀ n k,ns.length-k<=n->k<=ns.length->ag bJ (ns,(k:Int),()) (EZ (ns.drop k)):=by
  intro n;induction n with
  | zero =>
   intro k hn hk;have:k=ns.length:=by omega
   subst this;refine ag.fin (ae.of fun F => ?_);unfold bJ;simp[xM]
  | succ n ih =>
   intro k UN hk;by_cases aH:k<ns.length
   ·have h:(k:Int)<(ns.length:Int):=by omega
    have hm:ns[k]? = some ns[k]:=by simp[aH]
    rw[ado aH,DA];by_cases h0:bw ns[k]=0
    ·refine ag.fin (ae.of fun F => ?_)
     unfold bJ;simp only[h,decide_true,if_true,Us ns k _ hm,kx,ada,h0]
    ·rw[if_neg h0]
     refine ag.step (x':=(ns,((k+1:Nat):Int),())) (ae.of fun F => ?_) (ih _ (by omega) (by omega));have w:IntKind.i64.wrap ((k:Int)+1)=((k+1:Nat):Int):=by rw[wrap64 _ (by omega) (by omega)]; rfl
     unfold bJ;simp only[h,decide_true,if_true,Us ns k _ hm,kx,ada,h0,decide_false,ade,if_false,w]
   ·have:k=ns.length:=by omega
    subst this;refine ag.fin (ae.of fun F => ?_);unfold bJ;simp[xM]
 exact main _ k (Nat.le_refl _) hk
def tN (s:B8) (r:Int):Bool:=if s=[]\/r<(s.length:Int) then false else dq (EZ ((bF s).map (·.1))) (fun _=>true) fun v=>v.1
theorem Ej {α β γ:Type} (x:α ⊕ β) (f:α->γ) (g:β->γ):dq x (fun a=>some (f a)) (fun b=>some (g b))=some (dq x f g):=by cases x <;> rfl
theorem H8 (s:B8) (r:Int):ae (fun F=>oj F (s,r)) (tN s r):=by
 unfold oj tN;by_cases h1:s=[]
 ·simp only[h1,decide_true,Bool.true_eq_false,if_false,ada,if_true,true_or]
  exact ae.ret false
 by_cases h2:r<(s.length:Int)
 ·simp only[h1,h2,decide_true,decide_false,Bool.true_eq_false,if_false,ada,if_true,or_true]
  exact ae.ret false
 ·simp only[h1,h2,decide_true,decide_false,ade,if_false,ada,if_true,or_self]
  have:=MK s 0 (by omega);refine this.run.bind ?_;rw[List.drop_zero];exact ae.of fun F=>Ej _ _ _
theorem B0 (s:B8) (hs:s.length<=100000000000) (r:Int):ae (fun F=>fU F (s,r)) (tN s r):=by
 unfold fU tN;have hl:=ql s;by_cases h1:s=[]
 ·simp only[h1,List.length_nil,true_or,if_true]
  exact ae.ret false
 have CO:¬ (s.length:Int)<1:=by have:=List.length_pos_iff.2 h1; omega
 by_cases h2:r<(s.length:Int)
 ·simp only[h1,CO,h2,decide_true,decide_false,Bool.true_eq_false,if_false,ada,if_true,or_true]
  exact ae.ret false
 ·simp only[h1,CO,h2,decide_true,decide_false,ade,if_false,ada,if_true,or_self]
  refine (mQ s (by omega)).bind ?_;have:=Fx ((bF s).map (·.1)) (by simp; omega) 0 (by omega);refine this.run.bind ?_;rw[List.drop_zero];exact ae.of fun F=>Ej _ _ _
end Go.Vm
namespace Go.Vm
open Go Go.Proofs
theorem PY (n:Int) (h:0<=n):IntKind.u8.wrap n=n % 256:=by
 simp only[IntKind.wrap,IntKind.signed,IntKind.bits];simp
def upN (n:Nat):Nat:=if 97<=n/\n<=122 then n-32 else n
def upC (c:UInt8):UInt8:=UInt8.ofNat (upN c.toNat)
def isL (c:UInt8):Bool:=decide (65<=upN c.toNat/\upN c.toNat<=90)
def Tw (n:Nat):Int:=if 48<=n/\n<=57 then (n:Int)-48 else if 65<=n/\n<=70 then (n:Int)-55 else if 97<=n/\n<=102 then (n:Int)-87 else -1
def dgt (c:UInt8):Int:=Tw c.toNat
def Bo (n:Nat):Bool:=decide ((65<=n/\n<=90)\/(97<=n/\n<=122)\/(48<=n/\n<=57)\/n=45\/n=46\/n=95\/n=126)
def BF (c:UInt8):Bool:=Bo c.toNat
def HR (n:Nat):UInt8:=UInt8.ofNat (if n<10 then 48+n else 55+n)
theorem JD:∀ c:Fin 256,iq 0 ((c.val:Nat):Int)=some (((upN c.val:Nat):Int),decide (65<=upN c.val/\upN c.val<=90)):=by decide +kernel
theorem NC:∀ c:Fin 256,hT 0 ((c.val:Nat):Int)=some (Tw c.val):=by decide +kernel
theorem JC:∀ c:Fin 256,ct 0 ((c.val:Nat):Int)=some (Tw c.val):=by decide +kernel
theorem Mq:∀ c:Fin 256,ml 0 ((c.val:Nat):Int)=some (Bo c.val):=by decide +kernel
theorem S7:∀ c:Fin 16,fG 0 ((c.val:Nat):Int)=some [HR c.val]:=by decide +kernel
theorem Mz:∀ c:Fin 16,idx ([48,49,50,51,52,53,54,55,56,57,65,66,67,68,69,70]:B8) ((c.val:Nat):Int)=some (HR c.val):=by decide +kernel
theorem DU (F:Nat) (c:UInt8):iq F (c.toNat:Int)=some (((upN c.toNat:Nat):Int),isL c):=JD ⟨c.toNat,c.toNat_lt⟩
theorem qB (F:Nat) (c:UInt8):hT F (c.toNat:Int)=some (dgt c):=NC ⟨c.toNat,c.toNat_lt⟩
theorem ov (F:Nat) (c:UInt8):ct F (c.toNat:Int)=some (dgt c):=JC ⟨c.toNat,c.toNat_lt⟩
theorem Pf (F:Nat) (c:UInt8):ml F (c.toNat:Int)=some (BF c):=Mq ⟨c.toNat,c.toNat_lt⟩
theorem Rl (F n:Nat) (h:n<16):fG F (n:Int)=some [HR n]:=S7 ⟨n,h⟩
theorem HJ (n:Nat) (h:n<16):idx ([48,49,50,51,52,53,54,55,56,57,65,66,67,68,69,70]:B8) (n:Int)=some (HR n):=Mz ⟨n,h⟩
theorem FT (c:UInt8) : -1<=dgt c/\dgt c<=15:=by unfold dgt Tw; have:=c.toNat_lt; repeat' split
                                                all_goals omega
theorem byte_back (c:UInt8):UInt8.ofNat ((c.toNat:Int)).toNat=c:=by simp
theorem Mo (c:UInt8):UInt8.ofNat ((upN c.toNat:Nat):Int).toNat=upC c:=by simp[upC]
theorem oQ (F:Nat) (l:B8) (n:Int) (hl:l.length<=1000000000000):aI F (((),l,()),n)=some ((),((),l++[UInt8.ofNat n.toNat],())):=by
 have h1:bC F ((),l,())=some ((),((),l,())):=rfl;unfold aI;simp only[h1,ada];rw[if_pos (by simp; omega)];rfl
theorem bY {α β:Type} {x:Option α} {a:α} {f:α->Option β} {r:Option β} (h:x=some a) (h2:f a=r):x.bind f=r:=by rw[h]; exact h2
def zd (out rest:B8):(Unit×acX×B8×Unit) ⊕ (B8×Bool×Unit):=if rest.all isL=true then .inl ((),((),(),()),out++rest.map upC,()) else .inr ([],false,())
theorem SO {c:UInt8} {rest out:B8} (h:isL c=true):zd out (c::rest)=zd (out++[upC c]) rest:=by
 unfold zd;rw[List.all_cons,h,Bool.true_and,List.map_cons,List.append_assoc,List.singleton_append]
theorem Tz {c:UInt8} {rest out:B8} (h:isL c=false):zd out (c::rest) = .inr ([],false,()):=by
 unfold zd;rw[List.all_cons,h,Bool.false_and];rfl
theorem EG (s:B8) (hs:s.length<=1000):∀ (m k:Nat) (out:B8),k+m=s.length->out.length+m<=5000 ->
  ag gY (s,(),(s.length:Int),(k:Int),((),(),()),out,()) (zd out (s.drop k))
 | 0,k,out,h,ho=>by
  refine ag.fin (.of fun F => ?_);unfold gY;refine (if_neg (by simp; omega)).trans ?_;rw[List.drop_eq_nil_of_le (by omega)];simp[zd]
 | m+1,k,out,h,ho=>by
  have hk:k<s.length:=by omega
  have hx:=vW s k (k:Int) rfl hk;rw[ado hk];cases hl:isL s[k]
  ·refine ag.fin (.of fun F => ?_)
   unfold gY;refine (if_pos (by simp; omega)).trans ?_;simp only[hx,ada,DU,hl];rw[Tz hl];rfl
  ·have ih:=EG s hs m (k+1) (out++[upC s[k]]) (by omega) (by simp; omega)
   rw[SO hl];refine ag.step (.of fun F => ?_) ih;unfold gY;refine (if_pos (by simp; omega)).trans ?_;simp only[hx,ada,DU,hl,oQ F out _ (by omega),Mo];rw[if_neg (by simp),gw k (by omega)]
def kK (s:B8):B8×Bool:=if s=[]\/8<s.length then ([],false) else if s.all isL=true then (s.map upC,true) else ([],false)
theorem qD {s:B8} (h:s=[]\/8<s.length):kK s=([],false):=by unfold kK; rw[if_pos h]
theorem Bw {s:B8} (h:¬ (s=[]\/8<s.length)):kK s=if s.all isL=true then (s.map upC,true) else ([],false):=by unfold kK; rw[if_neg h]
theorem Jx (s:B8):ae (fun F=>jw F s) (kK s):=by
 unfold jw;by_cases h0:s=[]
 ·rw[qD (.inl h0)]
  refine ae.bind (r:=(s,true,())) (.of fun F=>if_neg (by simpa using h0)) (ae.pos rfl (.ret _))
 by_cases h8:8<s.length
 ·rw[qD (.inr h8)]
  refine ae.bind (r:=(s,true,())) (.of fun F=>(if_pos (by simpa using h0)).trans ?_) (ae.pos rfl (.ret _));rw[adg (by omega)]
 rw[Bw (by rintro (h | h) <;> contradiction)];refine ae.bind (r:=(s,false,())) (.of fun F=>(if_pos (by simpa using h0)).trans ?_) (ae.neg (by simp) ?_)
 ·rw[adh (by omega)]
 have hl:=EG s (by omega) s.length 0 [] (by omega) (by simp; omega);rw[List.drop_zero] at hl;refine ae.bind hl.run ?_;unfold zd;split
 ·exact .ret _
 ·exact .ret _
def tV (out rest:B8):(B8×Unit) ⊕ (B8×Bool×Unit):=if rest.all isL=true then .inl (out++rest.map upC,()) else .inr ([],false,())
theorem BO (F:Nat) (s:B8) (hs:s.length<=1000) (k:Nat) (hk:k<s.length) (out:B8) (ho:out.length<=5000) :
  cV F (s,out,(k:Int),())=if isL s[k]=true then some (.inl (s,out++[upC s[k]],((k+1:Nat):Int),())) else some (.inr (.inr ([],false,()))):=by
 have hx:=vW s k (k:Int) rfl hk;unfold cV;refine (if_pos (by simp; omega)).trans ?_;simp only[hx,ada];have hn:s[k].toNat<256:=s[k].toNat_lt;have hU:upC s[k]=UInt8.ofNat (upN s[k].toNat):=rfl;have hI:isL s[k]=decide (65<=upN s[k].toNat/\upN s[k].toNat<=90):=rfl;rw[hU,hI];generalize s[k].toNat=n at hn;refine bY (a:=(s,out,(k:Int),(n:Int),decide ((97:Int)<=(n:Int)/\(n:Int)<=122),())) ?_ (bY (a:=(s,out,(k:Int),((upN n:Nat):Int),())) ?_ ?_)
 ·by_cases h1:(97:Int)<=(n:Int)
  ·simp[h1]
  ·simp[h1]
 ·unfold upN
  by_cases h1:97<=n/\n<=122
  ·rw[if_pos (adg (by omega)),if_pos h1,PY _ (by simp only; omega)]
   simp only[Option.some.injEq,Prod.mk.injEq,true_and,and_true];omega
  ·rw[if_neg (by simpa using by omega),if_neg h1]
 generalize upN n=u;refine bY (a:=(s,out,(k:Int),(u:Int),decide (¬ (65<=u/\u<=90)),())) ?_ ?_
 ·by_cases h3:(u:Int)<65
  ·rw[if_neg (by simpa using h3)]
   have:¬ (65<=u/\u<=90):=by omega
   simp[this]
  ·rw[if_pos (by simpa using h3)]
   simp only[Option.some.injEq,Prod.mk.injEq,true_and,and_true,decide_eq_decide];omega
 ·by_cases h5:65<=u/\u<=90
  ·rw[if_neg (by simp[h5]),if_pos (adg h5),if_pos (by simp; omega),gw k (by omega)]
   rfl
  ·rw[if_pos (adg h5),if_neg (by simpa using h5)]
theorem Pq {c:UInt8} {rest out:B8} (h:isL c=true):tV out (c::rest)=tV (out++[upC c]) rest:=by
 unfold tV;rw[List.all_cons,h,Bool.true_and,List.map_cons,List.append_assoc,List.singleton_append]
theorem QM {c:UInt8} {rest out:B8} (h:isL c=false):tV out (c::rest) = .inr ([],false,()):=by
 unfold tV;rw[List.all_cons,h,Bool.false_and];rfl
theorem Bs (s:B8) (hs:s.length<=1000):∀ (m k:Nat) (out:B8),k+m=s.length->out.length+m<=5000 ->
  ag cV (s,out,(k:Int),()) (tV out (s.drop k))
 | 0,k,out,h,ho=>by
  refine ag.fin (.of fun F => ?_);unfold cV;refine (if_neg (by simp; omega)).trans ?_;rw[List.drop_eq_nil_of_le (by omega)];simp[tV]
 | m+1,k,out,h,ho=>by
  have hk:k<s.length:=by omega
  rw[ado hk];cases hl:isL s[k]
  ·refine ag.fin (.of fun F => ?_)
   rw[BO F s hs k hk out (by omega),hl,if_neg (by simp),QM hl]
  ·have ih:=Bs s hs m (k+1) (out++[upC s[k]]) (by omega) (by simp; omega)
   rw[Pq hl];refine ag.step (.of fun F => ?_) ih;rw[BO F s hs k hk out (by omega),hl,if_pos rfl]
theorem H3 (s:B8):ae (fun F=>ez F s) (kK s):=by
 unfold ez;by_cases h0:s=[]
 ·rw[qD (.inl h0)]
  refine ae.bind (r:=(s,true,())) (.of fun F=>if_neg (by simp[h0])) (ae.pos rfl (.ret _))
 have Zk:0<s.length:=List.length_pos_iff.2 h0;by_cases h8:8<s.length
 ·rw[qD (.inr h8)]
  refine ae.bind (r:=(s,true,())) (.of fun F=>(if_pos (by simp; omega)).trans ?_) (ae.pos rfl (.ret _));rw[adg (by omega)]
 rw[Bw (by rintro (h | h) <;> contradiction)];refine ae.bind (r:=(s,false,())) (.of fun F=>(if_pos (by simp; omega)).trans ?_) (ae.neg (by simp) ?_)
 ·rw[adh (by omega)]
 have hl:=Bs s (by omega) s.length 0 [] (by omega) (by simp; omega);rw[List.drop_zero] at hl;refine ae.bind hl.run ?_;unfold tV;split
 ·exact .ret _
 ·exact .ret _
end Go.Vm
