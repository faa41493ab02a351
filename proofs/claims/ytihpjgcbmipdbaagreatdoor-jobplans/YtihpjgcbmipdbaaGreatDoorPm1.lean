import Derived.Test.YtihpjgcbmipdbaaGreatDoorPk3
import Derived.Test.YtihpjgcbmipdbaaGreatDoorFref21
set_option linter.unusedVariables false
set_option linter.unusedSimpArgs false
namespace Go.Vm
open Go Go.Proofs
def yS (r:Int):Bool:=decide (bw r=2\/bw r=3\/r=45\/r=95\/r=46)
def zS (l:List Int):Unit ⊕ (Bool×Unit):=if l.all yS=true then .inl () else .inr (false,())
def B6 (s:B8):Bool:=if s=[]\/24<s.length then false else ((bF s).map (·.1)).all yS
theorem Rb {n:Int} {l:List Int} (h:yS n=true):zS (n::l)=zS l:=by
 unfold zS;rw[List.all_cons,h,Bool.true_and]
theorem PZ {n:Int} {l:List Int} (h:¬ yS n=true):zS (n::l) = .inr (false,()):=by
 unfold zS;rw[List.all_cons,Bool.eq_false_iff.2 h,Bool.false_and];rfl
theorem Hz (F:Nat) (s:B8) (p:Nat) (hp:p<s.length):gr F ((),(s,p),())=if yS (cT s p)=true then some (.inl ((),(s,p+runeLen s p),())) else some (.inr (.inr (false,()))):=by
 unfold gr;refine (if_pos (by simpa using hp)).trans ?_;simp only[mc,ada];generalize cT s p=r;unfold yS;by_cases h2:bw r=2
 ·simp[h2]
 by_cases h3:bw r=3
 ·simp[h3]
 by_cases Yx:r=45
 ·subst Yx; simp[h2,h3]
 by_cases Yy:r=95
 ·subst Yy; simp[h2,h3]
 by_cases Yz:r=46
 ·subst Yz; simp[h2,h3]
 simp[h2,h3,Yx,Yy,Yz]
theorem Pe (s:B8) (p:Nat) (hp:p<=s.length):ag gr ((),(s,p),()) (zS ((bF (s.drop p)).map (·.1))):=by
 suffices hh:∀ n p,p<=s.length->s.length-p<=n->ag gr ((),(s,p),()) (zS ((bF (s.drop p)).map (·.1))) from hh _ p hp (Nat.le_refl _)
 intro n;induction n with
 | zero =>
  intro p hp hn;refine ag.fin (.of fun F => ?_);unfold gr;refine (if_neg (by simp; omega)).trans ?_;rw[List.drop_eq_nil_of_le (by omega),fu];rfl
 | succ n ih =>
  intro p hp hn;by_cases aH:p<s.length
  ·have hr:=jI s p
   have hl:=gu s p;have uB:=Go.Lib.decodeL_le (s.drop p);have h1:=bH (s.drop p);rw[hQ (oe aH),List.map_cons];by_cases hk:yS ((Go.Lib.decodeL (s.drop p)).1:Int)=true
   ·have hb:zS (((Go.Lib.decodeL (s.drop p)).1:Int)::(bF ((s.drop p).drop (Go.Lib.decodeL (s.drop p)).2)).map (·.1))=zS ((bF (s.drop (p+(Go.Lib.decodeL (s.drop p)).2))).map (·.1)):=by
     rw[Rb hk,qE]
    rw[hb];refine ag.step (.of fun F => ?_) (ih (p+(Go.Lib.decodeL (s.drop p)).2) (uK aH) (by omega));rw[Hz F s p aH,hr,hl,if_pos hk]
   ·refine ag.fin (.of fun F => ?_)
    rw[Hz F s p aH,hr,if_neg hk,PZ hk]
  ·have:p=s.length:=by omega
   subst this;refine ag.fin (.of fun F => ?_);unfold gr;refine (if_neg (by simp)).trans ?_;rw[List.drop_eq_nil_of_le (by omega),fu];rfl
theorem xc {s:B8} (h:s=[]\/24<s.length):B6 s=false:=by unfold B6; rw[if_pos h]
theorem LL {s:B8} (h:¬ (s=[]\/24<s.length)):B6 s=((bF s).map (·.1)).all yS:=by unfold B6; rw[if_neg h]
theorem NX (s:B8):ae (fun F=>mU F s) (B6 s):=by
 unfold mU;by_cases h0:s=[]
 ·rw[xc (.inl h0)]
  refine ae.bind (r:=(s,true,())) (.of fun F=>if_neg (by simpa using h0)) (ae.pos rfl (.ret _))
 by_cases h8:24<s.length
 ·rw[xc (.inr h8)]
  refine ae.bind (r:=(s,true,())) (.of fun F=>(if_pos (by simpa using h0)).trans ?_) (ae.pos rfl (.ret _));rw[adg (by omega)]
 rw[LL (by rintro (h | h) <;> contradiction)];refine ae.bind (r:=(s,false,())) (.of fun F=>(if_pos (by simpa using h0)).trans ?_) (ae.neg (by simp) ?_)
 ·rw[adh (by omega)]
 have hl:=Pe s 0 (by omega);rw[List.drop_zero] at hl;refine ae.bind hl.run ?_;unfold zS;cases hb:((bF s).map (·.1)).all yS
 ·exact .ret _
 ·exact .ret _
theorem DC (F:Nat) (ns:List Int) (hn:ns.length<=1000000) (k:Nat) (hk:k<ns.length):eB F (ns,(k:Int),())=if yS ns[k]=true then some (.inl (ns,((k+1:Nat):Int),())) else some (.inr (.inr (false,()))):=by
 have hx:=vW ns k (k:Int) rfl hk;unfold eB;refine (if_pos (by simp; omega)).trans ?_;simp only[hx,kx,ada];generalize ns[k]=r at hx;unfold yS;by_cases h2:bw r=2
 ·simp[h2,gw k (by omega)]
 by_cases h3:bw r=3
 ·simp[h3,gw k (by omega)]
 by_cases Yx:r=45
 ·subst Yx; simp[h2,h3,hx,gw k (by omega)]
 by_cases Yy:r=95
 ·subst Yy; simp[h2,h3,hx,gw k (by omega)]
 by_cases Yz:r=46
 ·subst Yz; simp[h2,h3,hx,gw k (by omega)]
 simp[h2,h3,Yx,Yy,Yz,hx]
theorem DS (ns:List Int) (hn:ns.length<=1000000):∀ (m k:Nat),k+m=ns.length->ag eB (ns,(k:Int),()) (zS (ns.drop k))
 | 0,k,h=>by
  refine ag.fin (.of fun F => ?_);unfold eB;refine (if_neg (by simp; omega)).trans ?_;rw[List.drop_eq_nil_of_le (by omega)];rfl
 | m+1,k,h=>by
  have hk:k<ns.length:=by omega
  rw[ado hk];by_cases hr:yS ns[k]=true
  ·rw[Rb hr]
   refine ag.step (.of fun F => ?_) (DS ns hn m (k+1) (by omega));rw[DC F ns hn k hk,if_pos hr]
  ·refine ag.fin (.of fun F => ?_)
   rw[DC F ns hn k hk,if_neg hr,PZ hr]
theorem J6 (s:B8):ae (fun F=>fE F s) (B6 s):=by
 unfold fE;by_cases h0:s=[]
 ·rw[xc (.inl h0)]
  refine ae.bind (r:=(s,true,())) (.of fun F=>if_neg (by simp[h0])) (ae.pos rfl (.ret _))
 have Zk:0<s.length:=List.length_pos_iff.2 h0;by_cases h8:24<s.length
 ·rw[xc (.inr h8)]
  refine ae.bind (r:=(s,true,())) (.of fun F=>(if_pos (by simp; omega)).trans ?_) (ae.pos rfl (.ret _));rw[adg (by omega)]
 rw[LL (by rintro (h | h) <;> contradiction)];refine ae.bind (r:=(s,false,())) (.of fun F=>(if_pos (by simp; omega)).trans ?_) (ae.neg (by simp) ?_)
 ·rw[adh (by omega)]
 have UQ:=ql s;refine ae.bind (mQ s (by omega)) ?_;have hl:=DS ((bF s).map (·.1)) (by simp; omega) _ 0 (Nat.zero_add _);rw[List.drop_zero] at hl;refine ae.bind hl.run ?_;unfold zS;cases hb:((bF s).map (·.1)).all yS
 ·exact .ret _
 ·exact .ret _
end Go.Vm
namespace Go.Vm
open Go Go.Proofs
structure Ent where
 te:Int
 key:B8
 st:Int
 ep:Int
 tk:Int
 pt:Int
 pr:B8
 le:Int
 ex:Int
 su:Int
 tx:B8
 me:B8
 pa:B8
 bo:B8
 deriving DecidableEq
abbrev En:Type:=Int×B8×Int×Int×Int×Int×B8×Int×Int×Int×B8×B8×B8×B8×Unit
def Ent.t (e:Ent):En:=(e.te,e.key,e.st,e.ep,e.tk,e.pt,e.pr,e.le,e.ex,e.su,e.tx,e.me,e.pa,e.bo,())
def Ent.zero:Ent:=⟨0,[],0,0,0,0,[],0,0,0,[],[],[],[]⟩
def lu (te:Int) (key:B8):Bool:=decide (0<=te/\te<=3)&&B6 key
def Bc (e:Ent):Bool:=decide (1<=e.ep/\e.ep<=1073741824/\1<=e.tk/\e.tk<=1073741824/\0<=e.pt/\e.pt<=5/\e.pr.length=32/\0<=e.le/\e.le<=1099511627776/\0<=e.ex/\e.ex<=1099511627776)
def oI (e:Ent):Bool:=(kK e.me).2&&(kn e.pa).2&&decide ((kK e.me).1=e.me/\(kn e.pa).1=e.pa/\e.bo.length<=80)
def zb (e:Ent):Bool:=if e.st=1 then oI e&&decide (e.su=0/\e.tx=[]) else decide (e.le=0/\e.me=[]/\e.pa=[]/\e.bo=[]) &&
 (if e.st=2 then decide ((e.su=200\/e.su=201\/e.su=402)/\e.tx.length<=40) else decide (e.st=3/\e.su=0/\e.tx=[]))
def iC (e:Ent):Bool:=lu e.te e.key&&Bc e&&zb e
theorem Nn (m:B8):(kK m).2 = !decide ((kK m).1=[]):=by
 by_cases h:m=[]\/8<m.length
 ·rw[qD h]; rfl
 ·rw[Bw h]
  split
  ·have:m.map upC ≠ []:=by
    intro e;exact h (.inl (List.map_eq_nil_iff.1 e))
   simp[this]
  ·rfl
theorem PF (l:List B8):(GB l).2 = !decide ((GB l).1=[]):=by
 unfold GB;by_cases h:iS l=[]
 ·simp[h]
 ·simp only[h,if_false]
  split <;> simp[h]
theorem M1 (p:B8):(kn p).2 = !decide ((kn p).1=[]):=by
 cases p with
 | nil=>rfl
 | cons c t =>
  by_cases h:59<t.length\/c≠47
  ·rw[qF h]; rfl
  ·have h1:¬ 59<t.length:=fun x=>h (.inl x)
   have h2:c=47:=by
    by_cases hc:c=47
    ·exact hc
    ·exact absurd (.inr hc) h
   subst h2;rw[xB h1];split
   ·rfl
   ·exact PF _
theorem G6 (e:Ent):ae (fun F=>iW F e.t) (lu e.te e.key):=by
 obtain ⟨N,h⟩:=NX e.key;refine ⟨N,fun F hF => ?_⟩;have hk:mU F e.t.2.1=some (B6 e.key):=h F hF;show iW F e.t = _;unfold iW lu;by_cases h1:0<=e.te
 ·have CO:(0:Int)<=e.t.1:=h1
  by_cases h2:e.te<4
  ·have GZ:e.t.1<(4:Int):=h2
   have h3:e.te<=3:=by omega
   simp[CO,GZ,hk,h1,h3]
  ·have GZ:¬ (e.t.1<(4:Int)):=h2
   have h3:¬ (e.te<=3):=by omega
   simp[CO,GZ,h1,h3]
 ·have CO:¬ ((0:Int)<=e.t.1):=h1
  simp[CO,h1]
theorem Gg (e:Ent):ae (fun F=>di F e.t) (lu e.te e.key):=by
 obtain ⟨N,h⟩:=J6 e.key;refine ⟨N,fun F hF => ?_⟩;have hk:fE F e.t.2.1=some (B6 e.key):=h F hF;show di F e.t = _;unfold di lu;by_cases h1:0<=e.te
 ·have CO:(0:Int)<=e.t.1:=h1
  by_cases h2:e.te<=3
  ·have GZ:e.t.1<=(3:Int):=h2
   simp[CO,GZ,hk,h1,h2]
  ·have GZ:¬ (e.t.1<=(3:Int)):=h2
   simp[CO,GZ,h1,h2]
 ·have CO:¬ ((0:Int)<=e.t.1):=h1
  simp[CO,h1]
theorem ow (F:Nat) (n:Int):jm F n=some (decide (1<=n/\n<=1073741824)):=by
 unfold jm;by_cases h:1<=n <;> simp[h]
theorem xK (F:Nat) (n:Int):lg F n=some (decide (0<=n/\n<=1099511627776)):=by
 unfold lg;by_cases h:0<=n <;> simp[h]
theorem H7 (e:Ent):ae (fun F=>ic F e.t) (oI e):=by
 obtain ⟨N1,h1⟩:=Jx e.me;obtain ⟨N2,h2⟩:=JE e.pa;refine ⟨max N1 N2,fun F hF => ?_⟩;have k1:jw F e.t.2.2.2.2.2.2.2.2.2.2.2.1=some (kK e.me):=h1 F (by omega);have k2:lO F e.t.2.2.2.2.2.2.2.2.2.2.2.2.1=some (kn e.pa):=h2 F (by omega);show ic F e.t = _;unfold ic oI;rw[Nn,M1];rw[k1,ada,k2,ada];have em:e.t.2.2.2.2.2.2.2.2.2.2.2.1=e.me:=rfl;have ep:e.t.2.2.2.2.2.2.2.2.2.2.2.2.1=e.pa:=rfl;have eb:e.t.2.2.2.2.2.2.2.2.2.2.2.2.2.1=e.bo:=rfl;have hd:decide ((kK e.me).1=e.me/\(kn e.pa).1=e.pa/\e.bo.length<=80)=(decide ((kK e.me).1=e.me)&&(decide ((kn e.pa).1=e.pa)&&decide ((e.bo.length:Int)<=80))):=by
  rw[Bool.eq_iff_iff];simp only[adi,ac9];exact ⟨fun ⟨a,b,c⟩=>⟨a,b,by omega⟩,fun ⟨a,b,c⟩=>⟨a,b,by omega⟩⟩
 rw[hd,em];generalize decide ((kK e.me).1=[])=b1;generalize decide ((kK e.me).1=e.me)=b2;cases b1 <;> cases b2
 ·cases decide ((kn e.pa).1=[]) <;> rfl
 ·simp only[Bool.not_false,if_true,ada,ep]
  generalize decide ((kn e.pa).1=[])=b3;generalize decide ((kn e.pa).1=e.pa)=b4;cases b3 <;> cases b4 <;> simp only[Bool.not_false,Bool.not_true,if_true,ada,eb,ade,if_false,Bool.true_and,Bool.and_true,Bool.false_and,Bool.and_false]
 ·cases decide ((kn e.pa).1=[]) <;> rfl
 ·cases decide ((kn e.pa).1=[]) <;> rfl
def Pp (e:Ent):Bool:=decide ((e.su=200\/e.su=201\/e.su=402)/\e.tx.length<=40)
theorem Hb (F:Nat) (e:Ent):jG F e.t=some (Pp e):=by
 unfold jG Pp;have es:e.t.2.2.2.2.2.2.2.2.2.1=e.su:=rfl;have et:e.t.2.2.2.2.2.2.2.2.2.2.1=e.tx:=rfl;have hl:decide ((e.tx.length:Int)<=40)=decide (e.tx.length<=40):=by rw[decide_eq_decide]; omega
 by_cases h1:e.su=200
 ·simp[es,et,h1,hl]
 ·by_cases h2:e.su=201
  ·simp[es,et,h2,hl]
  ·by_cases h3:e.su=402
   ·simp[es,et,h3,hl]
   ·simp[es,h1,h2,h3]
theorem Tx (e:Ent):iC e=(lu e.te e.key&&(decide (1<=e.ep/\e.ep<=1073741824)&&(decide (1<=e.tk/\e.tk<=1073741824)&&(!decide (e.pt<0)&&(!decide (5<e.pt)&&(decide ((e.pr.length:Int)=32)&&(decide (0<=e.le/\e.le<=1099511627776)&&(decide (0<=e.ex/\e.ex<=1099511627776) &&
  (if decide (e.st=1)=true then oI e&&decide (e.su=0/\e.tx=[]) else decide (e.le=0/\e.me=[]/\e.pa=[]/\e.bo=[])&&(if decide (e.st=2)=true then Pp e else decide (e.st=3)&&decide (e.su=0/\e.tx=[])))))))))) ):=by
 have hr:zb e=(if decide (e.st=1)=true then oI e&&decide (e.su=0/\e.tx=[]) else decide (e.le=0/\e.me=[]/\e.pa=[]/\e.bo=[])&&(if decide (e.st=2)=true then Pp e else decide (e.st=3)&&decide (e.su=0/\e.tx=[]))):=by
  unfold zb Pp;by_cases h1:e.st=1
  ·simp[h1]
  ·by_cases h2:e.st=2
   ·simp[h2]
   ·simp[h1,h2]
 unfold iC;rw[hr,Bool.and_assoc];congr 1;generalize (if decide (e.st=1)=true then _ else _)=Z;unfold Bc;rw[Bool.eq_iff_iff];simp only[adi,ac9,Bool.not_eq_true',decide_eq_false_iff_not];constructor
 ·rintro ⟨h,hz⟩; refine ⟨?_,?_,?_,?_,?_,?_,?_,hz⟩ <;> omega
 ·rintro ⟨h1,h2,h3,h4,h5,h6,h7,hz⟩; refine ⟨?_,hz⟩; omega
theorem EB (e:Ent) (hm:e.me.length<=1000000) (hp:e.pa.length<=1000000) (hb:e.bo.length<=1000000):ae (fun F=>dJ F e.t) (iC e):=by
 obtain ⟨N1,h1⟩:=G6 e;obtain ⟨N2,h2⟩:=H7 e;refine ⟨max N1 N2,fun F hF => ?_⟩;have k1:iW F e.t=some (lu e.te e.key):=h1 F (by omega);have k2:ic F e.t=some (oI e):=h2 F (by omega);show dJ F e.t = _;unfold dJ;rw[k1,ada];have e1:e.t.2.2.1=e.st:=rfl;have e2:e.t.2.2.2.1=e.ep:=rfl;have e3:e.t.2.2.2.2.1=e.tk:=rfl;have e4:e.t.2.2.2.2.2.1=e.pt:=rfl;have e5:e.t.2.2.2.2.2.2.1=e.pr:=rfl;have e6:e.t.2.2.2.2.2.2.2.1=e.le:=rfl;have e7:e.t.2.2.2.2.2.2.2.2.1=e.ex:=rfl;have e8:e.t.2.2.2.2.2.2.2.2.2.1=e.su:=rfl;have e9:e.t.2.2.2.2.2.2.2.2.2.2.1=e.tx:=rfl;have em:e.t.2.2.2.2.2.2.2.2.2.2.2.1=e.me:=rfl;have ep:e.t.2.2.2.2.2.2.2.2.2.2.2.2.1=e.pa:=rfl;have eb:e.t.2.2.2.2.2.2.2.2.2.2.2.2.2.1=e.bo:=rfl;have l1:e.me.length+e.pa.length<=9223372036854775807:=by omega
 have l2:e.me.length+e.pa.length+e.bo.length<=9223372036854775807:=by omega
 have hA:(if decide (e.su=0)=true then some ((),decide (e.tx=[]),e.t,()) else some ((),false,e.t,()))=some ((),decide (e.su=0/\e.tx=[]),e.t,()):=by
  by_cases h:e.su=0 <;> simp[h]
 have hR:∀ z:Bool,(if decide (e.le=0)=true then if decide (e.me.length+e.pa.length<=9223372036854775807)=true then if decide ((e.me++e.pa).length+e.bo.length<=9223372036854775807)=true then some ((),z,decide (e.me++e.pa++e.bo=[]),e.t,()) else none else none else some ((),z,false,e.t,()))
   = some ((),z,decide (e.le=0/\e.me=[]/\e.pa=[]/\e.bo=[]),e.t,()):=by
  intro z;by_cases h:e.le=0
  ·simp[h,l1,l2]
  ·simp[h]
 rw[Tx];simp only[ow,xK,e1,e2,e3,e4,e5,e6,e7,e8,e9,em,ep,eb,ada];cases lu e.te e.key
 ·rfl
 cases decide (1<=e.ep/\e.ep<=1073741824)
 ·rfl
 simp only[Bool.not_true,if_true,ada,ow,e3];cases decide (1<=e.tk/\e.tk<=1073741824)
 ·rfl
 simp only[Bool.not_true,if_true,ada,e4];cases decide (e.pt<0)
 case true=>rfl
 simp only[Bool.not_true,Bool.not_false,if_true,ada,ow,xK,e1,e2,e3,e4,e5,e6,e7,e8,e9,em,ep,eb];cases decide (5<e.pt)
 case true=>rfl
 simp only[Bool.not_true,Bool.not_false,if_true,ada,ow,xK,e1,e2,e3,e4,e5,e6,e7,e8,e9,em,ep,eb];cases decide ((e.pr.length:Int)=32)
 case false=>rfl
 simp only[Bool.not_true,Bool.not_false,if_true,ada,ow,xK,e1,e2,e3,e4,e5,e6,e7,e8,e9,em,ep,eb];cases decide (0<=e.le/\e.le<=1099511627776)
 case false=>rfl
 simp only[Bool.not_true,Bool.not_false,if_true,ada,ow,xK,e1,e2,e3,e4,e5,e6,e7,e8,e9,em,ep,eb];cases decide (0<=e.ex/\e.ex<=1099511627776)
 case false=>rfl
 simp only[Bool.not_true,Bool.not_false,if_true,ada,e8,e9,hA,e6,em,ep,eb,hR,e1,Bool.true_and,ade,if_false];rw[show ic F e.t=some (oI e) from k2,Hb];cases decide (e.st=1)
 ·cases decide (e.st=2)
  ·cases decide (e.st=3)
   ·cases decide (e.le=0/\e.me=[]/\e.pa=[]/\e.bo=[]) <;> rfl
   ·cases decide (e.le=0/\e.me=[]/\e.pa=[]/\e.bo=[]) <;> rfl
  ·cases decide (e.le=0/\e.me=[]/\e.pa=[]/\e.bo=[]) <;> rfl
 ·cases decide (e.su=0/\e.tx=[]) <;> cases oI e <;> rfl
def rB (e:Ent):Bool:=if decide (e.st=1)=true then ((kK e.me).2&&((kn e.pa).2&&(decide ((kK e.me).1=e.me)&&(decide ((kn e.pa).1=e.pa)&&(decide ((e.bo.length:Int)<=80)&&(decide (e.su=0)&&decide (e.tx=[]))))))) else (decide (e.le=0)&&(decide (e.me=[])&&(decide (e.pa=[])&&(decide (e.bo=[])&&(if decide (e.st=2)=true then ((decide (e.su=200) || (decide (e.su=201) || decide (e.su=402)))&&decide ((e.tx.length:Int)<=40)) else (decide (e.st=3)&&(decide (e.su=0)&&decide (e.tx=[]))))))))
theorem Xn (e:Ent):zb e=rB e:=by
 unfold zb oI rB;have h80:decide ((e.bo.length:Int)<=80)=decide (e.bo.length<=80):=by rw[decide_eq_decide]; omega
 have WN:decide ((e.tx.length:Int)<=40)=decide (e.tx.length<=40):=by rw[decide_eq_decide]; omega
 rw[h80,WN];by_cases h1:e.st=1
 ·simp only[h1,if_true,decide_true,Bool.decide_and,Bool.and_assoc]
 ·by_cases h2:e.st=2
  ·simp only[if_neg h1,if_pos h2,adh h1,adg h2,ade,if_false,if_true,Bool.decide_and,Bool.and_assoc,Bool.decide_or]
  ·simp only[if_neg h1,if_neg h2,adh h1,adh h2,ade,if_false,Bool.decide_and,Bool.and_assoc]
theorem QX (e:Ent):iC e=(lu e.te e.key&&(!decide (e.ep<1)&&(!decide (1073741824<e.ep)&&(!decide (e.tk<1)&&(!decide (1073741824<e.tk)&&(!decide (e.pt<0)&&(!decide (5<e.pt)&&(decide ((e.pr.length:Int)=32)&&(!decide (e.le<0)&&(!decide (1099511627776<e.le)&&(!decide (e.ex<0)&&(!decide (1099511627776<e.ex)&&rB e)))))))))))):=by
 unfold iC;rw[Xn,Bool.and_assoc];congr 1;generalize rB e=Z;unfold Bc;rw[Bool.eq_iff_iff];simp only[adi,ac9,Bool.not_eq_true',decide_eq_false_iff_not];constructor
 ·rintro ⟨h,hz⟩; refine ⟨?_,?_,?_,?_,?_,?_,?_,?_,?_,?_,?_,hz⟩ <;> omega
 ·rintro ⟨h1,h2,h3,h4,h5,h6,h7,h8,h9,T2,h11,hz⟩; refine ⟨?_,hz⟩; omega
theorem oT (e:Ent):ae (fun F=>aT F e.t) (iC e):=by
 obtain ⟨N1,h1⟩:=Gg e;obtain ⟨N2,h2⟩:=H3 e.me;obtain ⟨N3,h3⟩:=F5 e.pa;refine ⟨max N1 (max N2 N3),fun F hF => ?_⟩;have k1:di F e.t=some (lu e.te e.key):=h1 F (by omega);have k2:ez F e.me=some (kK e.me):=h2 F (by omega);have k3:eZ F e.pa=some (kn e.pa):=h3 F (by omega);show aT F e.t = _;unfold aT;rw[k1,ada,QX];have e1:e.t.2.2.1=e.st:=rfl;have e2:e.t.2.2.2.1=e.ep:=rfl;have e3:e.t.2.2.2.2.1=e.tk:=rfl;have e4:e.t.2.2.2.2.2.1=e.pt:=rfl;have e5:e.t.2.2.2.2.2.2.1=e.pr:=rfl;have e6:e.t.2.2.2.2.2.2.2.1=e.le:=rfl;have e7:e.t.2.2.2.2.2.2.2.2.1=e.ex:=rfl;have e8:e.t.2.2.2.2.2.2.2.2.2.1=e.su:=rfl;have e9:e.t.2.2.2.2.2.2.2.2.2.2.1=e.tx:=rfl;have em:e.t.2.2.2.2.2.2.2.2.2.2.2.1=e.me:=rfl;have ep:e.t.2.2.2.2.2.2.2.2.2.2.2.2.1=e.pa:=rfl;have eb:e.t.2.2.2.2.2.2.2.2.2.2.2.2.2.1=e.bo:=rfl;simp only[Bool.not_true,Bool.not_false,if_true,ada,e1,e2,e3,e4,e5,e6,e7,e8,e9,em,ep,eb,ade,if_false,Bool.true_and];cases lu e.te e.key
 case false=>rfl
 simp only[Bool.not_true,Bool.not_false,if_true,ada,e1,e2,e3,e4,e5,e6,e7,e8,e9,em,ep,eb,ade,if_false,Bool.true_and];cases decide (e.ep<1)
 case true=>rfl
 simp only[Bool.not_true,Bool.not_false,if_true,ada,e1,e2,e3,e4,e5,e6,e7,e8,e9,em,ep,eb,ade,if_false,Bool.true_and];cases decide (1073741824<e.ep)
 case true=>rfl
 simp only[Bool.not_true,Bool.not_false,if_true,ada,e1,e2,e3,e4,e5,e6,e7,e8,e9,em,ep,eb,ade,if_false,Bool.true_and];cases decide (e.tk<1)
 case true=>rfl
 simp only[Bool.not_true,Bool.not_false,if_true,ada,e1,e2,e3,e4,e5,e6,e7,e8,e9,em,ep,eb,ade,if_false,Bool.true_and];cases decide (1073741824<e.tk)
 case true=>rfl
 simp only[Bool.not_true,Bool.not_false,if_true,ada,e1,e2,e3,e4,e5,e6,e7,e8,e9,em,ep,eb,ade,if_false,Bool.true_and];cases decide (e.pt<0)
 case true=>rfl
 simp only[Bool.not_true,Bool.not_false,if_true,ada,e1,e2,e3,e4,e5,e6,e7,e8,e9,em,ep,eb,ade,if_false,Bool.true_and];cases decide (5<e.pt)
 case true=>rfl
 simp only[Bool.not_true,Bool.not_false,if_true,ada,e1,e2,e3,e4,e5,e6,e7,e8,e9,em,ep,eb,ade,if_false,Bool.true_and];cases decide ((e.pr.length:Int)=32)
 case false=>rfl
 simp only[Bool.not_true,Bool.not_false,if_true,ada,e1,e2,e3,e4,e5,e6,e7,e8,e9,em,ep,eb,ade,if_false,Bool.true_and];cases decide (e.le<0)
 case true=>rfl
 simp only[Bool.not_true,Bool.not_false,if_true,ada,e1,e2,e3,e4,e5,e6,e7,e8,e9,em,ep,eb,ade,if_false,Bool.true_and];cases decide (1099511627776<e.le)
 case true=>rfl
 simp only[Bool.not_true,Bool.not_false,if_true,ada,e1,e2,e3,e4,e5,e6,e7,e8,e9,em,ep,eb,ade,if_false,Bool.true_and];cases decide (e.ex<0)
 case true=>rfl
 simp only[Bool.not_true,Bool.not_false,if_true,ada,e1,e2,e3,e4,e5,e6,e7,e8,e9,em,ep,eb,ade,if_false,Bool.true_and];cases decide (1099511627776<e.ex)
 case true=>rfl
 unfold rB;simp only[Bool.not_true,Bool.not_false,if_true,ada,e1,e2,e3,e4,e5,e6,e7,e8,e9,em,ep,eb,ade,if_false,Bool.true_and];cases decide (e.st=1)
 case true =>
  simp only[Bool.not_true,Bool.not_false,if_true,ada,e1,e2,e3,e4,e5,e6,e7,e8,e9,em,ep,eb,ade,if_false,Bool.true_and];rw[k2,ada,k3,ada];generalize kK e.me=m;generalize kn e.pa=p;obtain ⟨m,b1⟩:=m;obtain ⟨p,b2⟩:=p;simp only[Bool.not_true,Bool.not_false,if_true,ada,e1,e2,e3,e4,e5,e6,e7,e8,e9,em,ep,eb,ade,if_false,Bool.true_and];cases b1
  case false=>rfl
  simp only[Bool.not_true,Bool.not_false,if_true,ada,e1,e2,e3,e4,e5,e6,e7,e8,e9,em,ep,eb,ade,if_false,Bool.true_and];cases b2
  case false=>rfl
  simp only[Bool.not_true,Bool.not_false,if_true,ada,e1,e2,e3,e4,e5,e6,e7,e8,e9,em,ep,eb,ade,if_false,Bool.true_and];cases decide (m=e.me)
  case false=>rfl
  simp only[Bool.not_true,Bool.not_false,if_true,ada,e1,e2,e3,e4,e5,e6,e7,e8,e9,em,ep,eb,ade,if_false,Bool.true_and];cases decide (p=e.pa)
  case false=>rfl
  simp only[Bool.not_true,Bool.not_false,if_true,ada,e1,e2,e3,e4,e5,e6,e7,e8,e9,em,ep,eb,ade,if_false,Bool.true_and];cases decide ((e.bo.length:Int)<=80)
  case false=>rfl
  simp only[Bool.not_true,Bool.not_false,if_true,ada,e1,e2,e3,e4,e5,e6,e7,e8,e9,em,ep,eb,ade,if_false,Bool.true_and];cases decide (e.su=0) <;> rfl
 simp only[Bool.not_true,Bool.not_false,if_true,ada,e1,e2,e3,e4,e5,e6,e7,e8,e9,em,ep,eb,ade,if_false,Bool.true_and];cases decide (e.le=0)
 case false=>rfl
 simp only[Bool.not_true,Bool.not_false,if_true,ada,e1,e2,e3,e4,e5,e6,e7,e8,e9,em,ep,eb,ade,if_false,Bool.true_and];cases decide (e.me=[])
 case false=>rfl
 simp only[Bool.not_true,Bool.not_false,if_true,ada,e1,e2,e3,e4,e5,e6,e7,e8,e9,em,ep,eb,ade,if_false,Bool.true_and];cases decide (e.pa=[])
 case false=>rfl
 simp only[Bool.not_true,Bool.not_false,if_true,ada,e1,e2,e3,e4,e5,e6,e7,e8,e9,em,ep,eb,ade,if_false,Bool.true_and];cases decide (e.bo=[])
 case false=>rfl
 simp only[Bool.not_true,Bool.not_false,if_true,ada,e1,e2,e3,e4,e5,e6,e7,e8,e9,em,ep,eb,ade,if_false,Bool.true_and];cases decide (e.st=2)
 case true =>
  simp only[Bool.not_true,Bool.not_false,if_true,ada,e1,e2,e3,e4,e5,e6,e7,e8,e9,em,ep,eb,ade,if_false,Bool.true_and];cases decide (e.su=200)
  case true=>rfl
  simp only[Bool.not_true,Bool.not_false,if_true,ada,e1,e2,e3,e4,e5,e6,e7,e8,e9,em,ep,eb,ade,if_false,Bool.true_and];cases decide (e.su=201)
  case true=>rfl
  simp only[Bool.not_true,Bool.not_false,if_true,ada,e1,e2,e3,e4,e5,e6,e7,e8,e9,em,ep,eb,ade,if_false,Bool.true_and];cases decide (e.su=402) <;> rfl
 simp only[Bool.not_true,Bool.not_false,if_true,ada,e1,e2,e3,e4,e5,e6,e7,e8,e9,em,ep,eb,ade,if_false,Bool.true_and];cases decide (e.st=3)
 case false=>rfl
 simp only[Bool.not_true,Bool.not_false,if_true,ada,e1,e2,e3,e4,e5,e6,e7,e8,e9,em,ep,eb,ade,if_false,Bool.true_and];cases decide (e.su=0) <;> rfl
end Go.Vm
