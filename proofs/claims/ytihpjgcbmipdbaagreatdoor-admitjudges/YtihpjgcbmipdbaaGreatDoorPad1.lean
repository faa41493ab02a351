import Derived.Test.YtihpjgcbmipdbaaGreatDoorPr7
set_option linter.unusedVariables false
set_option linter.unusedSimpArgs false
namespace Go.Vm
open Go.Proofs
theorem yA (l:List RlT) (m s:By) (hl:l.length≤1000000) (hb : ∀ r∈l,zz r) (hs:s.length≤900) : ∀ (n i:Nat),i+n=l.length→af dK (l,m,s,(i:Int),()) (nY m s (l.drop i) i)
 | 0,i,h=>by
  refine af.fin (.of fun F => ?_);unfold dK;rw [if_neg (by rw [abn]; simp only; omega),List.drop_eq_nil_of_le (by omega)];rfl
 | n+1,i,h=>by
  have hi:i<l.length:=by omega
  have hx:idx l (i:Int)=some l[i]:=bc _ _ _ (List.getElem?_eq_getElem hi);have hw:IntKind.i64.wrap ((i:Int)+1)=((i+1:Nat):Int):=by rw [wrap64 _ (by omega) (by omega)]; omega
  have ih:=yA l m s hl hb hs n (i+1) (by omega);obtain ⟨b1,b2,b3,b4⟩:=hb l[i] (List.getElem_mem hi);rw [List.drop_eq_getElem_cons hi];generalize l[i]=r at *
  obtain ⟨rm,rp,pr,u⟩:=r;simp only at b1 b2;unfold nY;have a7:ae (fun F=>dK F (l,m,s,(i:Int),())) (if jQ (rm,rp,pr,u) m s=true then .inr (.inr ((i:Int),())) else .inl (l,m,s,((i+1:Nat):Int),())):=by
   unfold dK jQ;refine ae.pos (by rw [abn]; simp only; omega) ?_;refine ae.bind (r:=((l,m,s,(i:Int),decide (rm=m) || decide (rm = [42]),()):List RlT×By×By×Int×Bool×Unit)) (ae.bind (.of fun F=>hx) (.of fun F => ?_)) ?_
   ·by_cases c1:rm=m
    ·rw [if_neg (by rw [abt c1]; exact Bool.noConfusion),abt c1]; rfl
    ·rw [if_pos (abu c1),abu c1,Bool.false_or]
     simp only [hx,abo]
   refine ae.bind (r:=((l,m,s,(i:Int),(decide (rm=m) || decide (rm = [42])) && rj rp s,()):List RlT×By×By×Int×Bool×Unit)) ?_ ?_
   ·cases (decide (rm=m) || decide (rm = [42])) with
    | true=>exact ae.pos rfl (ae.bind (.of fun F=>hx) (ae.bind (Rm rp s b2 hs) (.ret _)))
    | false=>exact ae.neg abw (.ret _)
   ·show ae _ (if ((decide (rm=m) || decide (rm = [42])) && rj rp s)=true then _ else _)
    cases ((decide (rm=m) || decide (rm = [42])) && rj rp s) with
    | true=>exact ae.pos rfl (.ret _)
    | false=>exact ae.neg abw (.of fun F=>by simp only [hw]; rfl)
  cases hc:jQ (rm,rp,pr,u) m s with
  | true =>
   rw [hc,if_pos rfl] at a7;exact af.fin a7
  | false =>
   rw [hc,if_neg abw] at a7;exact af.step a7 ih
theorem RH (l:List RlT) (m s:By) (hl:l.length≤1000000) (hb : ∀ r∈l,zz r) (hs:s.length≤900):ae (fun F=>gw F (l,m,s)) (eR l m s):=by
 unfold gw eR;have h:=yA l m s hl hb hs l.length 0 (by omega);rw [List.drop_zero] at h;refine ae.bind h.run (.of fun F => ?_);cases nY m s l 0 <;> rfl
theorem AV (m s:By) : ∀ (l:List RlT) (i:Nat),(nY m s l i = .inl () ∧ ∀ r∈l,jQ r m s=false) ∨ ∃ k,nY m s l i = .inr (((i+k:Nat):Int),())∧k<l.length∧(∀ r,l[k]? = some r→jQ r m s=true) ∧ ∀ j r,j<k→l[j]? = some r→jQ r m s=false
 | [],i => .inl ⟨rfl,fun r hr=>by cases hr⟩
 | r :: l,i=>by
  unfold nY;cases hc:jQ r m s with
  | true =>
   rw [if_pos rfl];refine .inr ⟨0,rfl,by simp,fun q hq => ?_,fun j q hj=>by omega⟩;have:r=q:=by simpa using hq
   subst this;exact hc
  | false =>
   rw [if_neg abw];rcases AV m s l (i+1) with ⟨h1,h2⟩ | ⟨k,h1,h2,h3,h4⟩
   ·refine .inl ⟨h1,fun q hq => ?_⟩
    rcases List.mem_cons.1 hq with rfl | hq
    ·exact hc
    ·exact h2 q hq
   ·refine .inr ⟨k+1,by rw [h1,show i+1+k=i+(k+1) by omega],by rw [abp]; omega,fun q hq=>h3 q (by simpa using hq),fun j q hj hq => ?_⟩
    cases j with
    | zero =>
     have:r=q:=by simpa using hq
     subst this;exact hc
    | succ j=>exact h4 j q (by omega) (by simpa using hq)
theorem As (l:List RlT) (m s:By):eR l m s<(l.length:Int) ∧ ∀ (k:Nat) r,l[k]? = some r→((jQ r m s && (decide (eR l m s<0) || decide ((k:Int)<eR l m s))) || (decide ((k:Int)=eR l m s) && !jQ r m s))=false:=by
 rcases AV m s l 0 with ⟨h1,h2⟩ | ⟨k0,h1,h2,h3,h4⟩
 ·have hv:eR l m s = -1:=by
   unfold eR;rw [h1];rfl
  rw [hv];refine ⟨by omega,fun k r hr => ?_⟩;rw [h2 r (List.mem_of_getElem? hr),abu (by omega : ¬ (k:Int) = -1)];rfl
 ·have hv:eR l m s=(k0:Int):=by
   unfold eR;rw [h1,Nat.zero_add];rfl
  rw [hv];refine ⟨by omega,fun k r hr => ?_⟩;rw [abu (by omega : ¬ ((k0:Nat):Int)<0),Bool.false_or];by_cases c1:k<k0
  ·rw [h4 k r c1 hr,abu (by omega : ¬ (k:Int)=(k0:Int))]
   rfl
  ·rw [abu (by omega : ¬ (k:Int)<(k0:Int)),Bool.and_false,Bool.false_or]
   by_cases c2:k=k0
   ·subst c2
    rw [h3 r hr,Bool.not_true,Bool.and_false]
   ·rw [abu (by omega),Bool.false_and]
end Go.Vm
namespace Go.Vm
open Go.Lib (decodeL decDigits itoa)
end Go.Vm
namespace Go.Vm
theorem SE (s:By) (hs:s.length≤1000):ae (fun F=>oF F s) (kN s):=by
 unfold oF kN;refine ae.bind (SA s hs) ?_;cases h:pV s with
 | error e =>
  have:=zI h hs;exact ae.pos (by simpa using this) (.ret _)
 | ok v =>
  obtain ⟨h1,h2,h3⟩:=Iz h;refine ae.neg (by simp) ?_;refine ae.bind (VY 8 v [] h1 (by simp; omega)) ?_;exact .ret _
end Go.Vm
namespace Go.Vm
open Go Go.Proofs
def ye (r:Int):Bool:=decide (il r=2∨il r=3∨r=45∨r=95∨r=46)
def zF (l:List Int):Unit ⊕ (Bool×Unit):=if l.all ye=true then .inl () else .inr (false,())
def yc (s:B8):Bool:=if s = []∨24<s.length then false else ((dZ s).map (·.1)).all ye
theorem Pg {n:Int} {l:List Int} (h:ye n=true):zF (n :: l)=zF l:=by
 unfold zF;rw [List.all_cons,h,Bool.true_and]
theorem OI {n:Int} {l:List Int} (h : ¬ ye n=true):zF (n :: l) = .inr (false,()):=by
 unfold zF;rw [List.all_cons,Bool.eq_false_iff.2 h,Bool.false_and];rfl
theorem Hp (F:Nat) (s:B8) (p:Nat) (hp:p<s.length):gh F ((),(s,p),())=if ye (eL s p)=true then some (.inl ((),(s,p+runeLen s p),())) else some (.inr (.inr (false,()))):=by
 unfold gh;refine (if_pos (by simpa using hp)).trans ?_;simp only [Fw,abo];generalize eL s p=r;unfold ye;by_cases h2:il r=2
 ·simp [h2]
 by_cases h3:il r=3
 ·simp [h3]
 by_cases Vy:r=45
 ·subst Vy; simp [h2,h3]
 by_cases Xr:r=95
 ·subst Xr; simp [h2,h3]
 by_cases Xs:r=46
 ·subst Xs; simp [h2,h3]
 simp [h2,h3,Vy,Xr,Xs]
theorem PV (s:B8) (p:Nat) (hp:p≤s.length):af gh ((),(s,p),()) (zF ((dZ (s.drop p)).map (·.1))):=by
 suffices hh : ∀ n p,p≤s.length→s.length - p≤n→af gh ((),(s,p),()) (zF ((dZ (s.drop p)).map (·.1))) from hh _ p hp (Nat.le_refl _)
 intro n;induction n with
 | zero =>
  intro p hp hn;refine af.fin (.of fun F => ?_);unfold gh;refine (if_neg (by simp; omega)).trans ?_;rw [List.drop_eq_nil_of_le (by omega),ju];rfl
 | succ n ih =>
  intro p hp hn;by_cases aM:p<s.length
  ·have hr:=o9 s p
   have hl:=nU s p;have yo:=Go.Lib.decodeL_le (s.drop p);have h1:=cS (s.drop p);rw [lB (tP aM),List.map_cons];by_cases hk:ye ((Go.Lib.decodeL (s.drop p)).1:Int)=true
   ·have hb:zF (((Go.Lib.decodeL (s.drop p)).1:Int) :: (dZ ((s.drop p).drop (Go.Lib.decodeL (s.drop p)).2)).map (·.1))=zF ((dZ (s.drop (p+(Go.Lib.decodeL (s.drop p)).2))).map (·.1)):=by
     rw [Pg hk,xY]
    rw [hb];refine af.step (.of fun F => ?_) (ih (p+(Go.Lib.decodeL (s.drop p)).2) (FA aM) (by omega));rw [Hp F s p aM,hr,hl,if_pos hk]
   ·refine af.fin (.of fun F => ?_)
    rw [Hp F s p aM,hr,if_neg hk,OI hk]
  ·have:p=s.length:=by omega
   subst this;refine af.fin (.of fun F => ?_);unfold gh;refine (if_neg (by simp)).trans ?_;rw [List.drop_eq_nil_of_le (by omega),ju];rfl
theorem wx {s:B8} (h:s = []∨24<s.length):yc s=false:=by unfold yc; rw [if_pos h]
theorem Ki {s:B8} (h : ¬ (s = []∨24<s.length)):yc s=((dZ s).map (·.1)).all ye:=by unfold yc; rw [if_neg h]
theorem MI (s:B8):ae (fun F=>oy F s) (yc s):=by
 unfold oy;by_cases h0:s = []
 ·rw [wx (.inl h0)]
  refine ae.bind (r:=(s,true,())) (.of fun F=>if_neg (by simpa using h0)) (ae.pos rfl (.ret _))
 by_cases h8:24<s.length
 ·rw [wx (.inr h8)]
  refine ae.bind (r:=(s,true,())) (.of fun F=>(if_pos (by simpa using h0)).trans ?_) (ae.pos rfl (.ret _));rw [abt (by omega)]
 rw [Ki (by rintro (h | h) <;> contradiction)];refine ae.bind (r:=(s,false,())) (.of fun F=>(if_pos (by simpa using h0)).trans ?_) (ae.neg (by simp) ?_)
 ·rw [abu (by omega)]
 have hl:=PV s 0 (by omega);rw [List.drop_zero] at hl;refine ae.bind hl.run ?_;unfold zF;cases hb:((dZ s).map (·.1)).all ye
 ·exact .ret _
 ·exact .ret _
theorem C8 (F:Nat) (ns:List Int) (hn:ns.length≤1000000) (k:Nat) (hk:k<ns.length):ee F (ns,(k:Int),())=if ye ns[k]=true then some (.inl (ns,((k+1:Nat):Int),())) else some (.inr (.inr (false,()))):=by
 have hx:=vq ns k (k:Int) rfl hk;unfold ee;refine (if_pos (by simp; omega)).trans ?_;simp only [hx,nW,abo];generalize ns[k]=r at hx;unfold ye;by_cases h2:il r=2
 ·simp [h2,gp k (by omega)]
 by_cases h3:il r=3
 ·simp [h3,gp k (by omega)]
 by_cases Vy:r=45
 ·subst Vy; simp [h2,h3,hx,gp k (by omega)]
 by_cases Xr:r=95
 ·subst Xr; simp [h2,h3,hx,gp k (by omega)]
 by_cases Xs:r=46
 ·subst Xs; simp [h2,h3,hx,gp k (by omega)]
 simp [h2,h3,Vy,Xr,Xs,hx]
theorem C1 (ns:List Int) (hn:ns.length≤1000000) : ∀ (m k:Nat),k+m=ns.length→af ee (ns,(k:Int),()) (zF (ns.drop k))
 | 0,k,h=>by
  refine af.fin (.of fun F => ?_);unfold ee;refine (if_neg (by simp; omega)).trans ?_;rw [List.drop_eq_nil_of_le (by omega)];rfl
 | m+1,k,h=>by
  have hk:k<ns.length:=by omega
  rw [List.drop_eq_getElem_cons hk];by_cases hr:ye ns[k]=true
  ·rw [Pg hr]
   refine af.step (.of fun F => ?_) (C1 ns hn m (k+1) (by omega));rw [C8 F ns hn k hk,if_pos hr]
  ·refine af.fin (.of fun F => ?_)
   rw [C8 F ns hn k hk,if_neg hr,OI hr]
theorem IW (s:B8):ae (fun F=>gG F s) (yc s):=by
 unfold gG;by_cases h0:s = []
 ·rw [wx (.inl h0)]
  refine ae.bind (r:=(s,true,())) (.of fun F=>if_neg (by simp [h0])) (ae.pos rfl (.ret _))
 have XU:0<s.length:=List.length_pos_iff.2 h0;by_cases h8:24<s.length
 ·rw [wx (.inr h8)]
  refine ae.bind (r:=(s,true,())) (.of fun F=>(if_pos (by simp; omega)).trans ?_) (ae.pos rfl (.ret _));rw [abt (by omega)]
 rw [Ki (by rintro (h | h) <;> contradiction)];refine ae.bind (r:=(s,false,())) (.of fun F=>(if_pos (by simp; omega)).trans ?_) (ae.neg (by simp) ?_)
 ·rw [abu (by omega)]
 have QE:=xM s;refine ae.bind (sP s (by omega)) ?_;have hl:=C1 ((dZ s).map (·.1)) (by simp; omega) _ 0 (Nat.zero_add _);rw [List.drop_zero] at hl;refine ae.bind hl.run ?_;unfold zF;cases hb:((dZ s).map (·.1)).all ye
 ·exact .ret _
 ·exact .ret _
end Go.Vm
namespace Go.Vm
open Go Go.Proofs
abbrev Rq:Type:=Int×Int×Int×B8×B8×B8×B8×Unit
def mM:Rq:=(0,0,0,[],[],[],[],())
def sW (cl se te:Int) (key me pa bo:B8):Bool:=(gQ me).2 && (gD pa).2 && decide (0≤te∧te≤3∧0≤cl∧cl≤3∧0≤se∧se≤1073741824) && yc key && decide (bo.length≤80)
def rqG (cl se te:Int) (key me pa bo:B8):Rq×Bool:=if sW cl se te key me pa bo=true then ((cl,se,te,key,(gQ me).1,(gD pa).1,bo,()),true) else (mM,false)
theorem UC (cl se te:Int) (key me pa bo:B8):ae (fun F=>iF F (cl,se,te,key,me,pa,bo,())) (rqG cl se te key me pa bo):=by
 obtain ⟨m,a,hm⟩ : ∃ m a,gQ me=(m,a):=⟨_,_,rfl⟩
 obtain ⟨p,b,hp⟩ : ∃ p b,gD pa=(p,b):=⟨_,_,rfl⟩
 have tm:=Jb me;have tp:=Bd pa;rw [hm] at tm;rw [hp] at tp;obtain ⟨c1,h1⟩ : ∃ c,c=decide (0≤te∧te<4):=⟨_,rfl⟩
 obtain ⟨c2,h2⟩ : ∃ c,c=(c1 && decide (0≤cl)):=⟨_,rfl⟩
 obtain ⟨c3,h3⟩ : ∃ c,c=(c2 && decide (cl<4)):=⟨_,rfl⟩
 obtain ⟨c4,h4⟩ : ∃ c,c=(c3 && decide (0≤se)):=⟨_,rfl⟩
 obtain ⟨c5,h5⟩ : ∃ c,c=(c4 && decide (se≤1073741824)):=⟨_,rfl⟩
 obtain ⟨g1,e1⟩ : ∃ c,c=(!a || !b):=⟨_,rfl⟩
 obtain ⟨g2,e2⟩ : ∃ c,c=(g1 || !c5):=⟨_,rfl⟩
 obtain ⟨g3,e3⟩ : ∃ c,c=(g2 || !yc key):=⟨_,rfl⟩
 obtain ⟨g4,e4⟩ : ∃ c,c=(g3 || decide (80<(bo.length:Int))):=⟨_,rfl⟩
 have oe:sW cl se te key me pa bo = !g4:=by
  unfold sW;rw [hm,hp,e4,e3,e2,e1,h5,h4,h3,h2,h1];simp only;rw [Bool.eq_iff_iff];simp only [abv,Bool.not_eq_true',abn,Bool.or_eq_false_iff,decide_eq_false_iff_not,Bool.not_eq_false'];cases a <;> cases b <;> cases yc key <;> simp <;> omega
 unfold iF;refine ae.bind tm (ae.bind tp ?_);refine ae.bind (r:=((),(),m,a,p,b,c1,(cl,se,te,key,me,pa,bo,()),mM,())) (.of fun F => ?_) ?_
 ·by_cases h:0≤te
  ·rw [if_pos (abt h),h1]
   have:decide (te<4)=decide (0≤te∧te<4):=by simp [h]
   rw [← this];rfl
  ·rw [if_neg (by simpa using h),h1]
   have:decide (0≤te∧te<4)=false:=abu (fun x=>h x.1);rw [this];rfl
 refine ae.bind (r:=((),(),m,a,p,b,c2,(cl,se,te,key,me,pa,bo,()),mM,())) (.of fun F=>by cases c1 <;> rw [h2] <;> rfl) ?_;refine ae.bind (r:=((),(),m,a,p,b,c3,(cl,se,te,key,me,pa,bo,()),mM,())) (.of fun F=>by cases c2 <;> rw [h3] <;> rfl) ?_;refine ae.bind (r:=((),(),m,a,p,b,c4,(cl,se,te,key,me,pa,bo,()),mM,())) (.of fun F=>by cases c3 <;> rw [h4] <;> rfl) ?_;refine ae.bind (r:=((),(),m,a,p,b,c5,(cl,se,te,key,me,pa,bo,()),mM,())) (.of fun F=>by cases c4 <;> rw [h5] <;> rfl) ?_;refine ae.bind (r:=((),(),m,p,c5,g1,(cl,se,te,key,me,pa,bo,()),mM,())) (.of fun F=>by cases a <;> rw [e1] <;> rfl) ?_;refine ae.bind (r:=((),(),m,p,g2,(cl,se,te,key,me,pa,bo,()),mM,())) (.of fun F=>by cases g1 <;> rw [e2] <;> rfl) ?_;refine ae.bind (r:=((),(),m,p,g3,(cl,se,te,key,me,pa,bo,()),mM,())) ?_ ?_
 ·cases g2
  ·rw [e3]
   exact ae.pos rfl (ae.bind (MI key) (.ret _))
  ·rw [e3]
   exact ae.neg (by simp) (.ret _)
 refine ae.bind (r:=((),(),m,p,g4,(cl,se,te,key,me,pa,bo,()),mM,())) (.of fun F=>by cases g3 <;> rw [e4] <;> rfl) ?_;unfold rqG;rw [oe,hm,hp];cases g4
 ·exact ae.neg (by simp) (.ret _)
 ·exact ae.pos rfl (.ret _)
theorem Q6 (cl se te:Int) (key me pa bo:B8):ae (fun F=>dH F (cl,se,te,key,me,pa,bo,())) (rqG cl se te key me pa bo):=by
 obtain ⟨m,a,hm⟩ : ∃ m a,gQ me=(m,a):=⟨_,_,rfl⟩
 obtain ⟨p,b,hp⟩ : ∃ p b,gD pa=(p,b):=⟨_,_,rfl⟩
 have tm:=yZ me;have tp:=wC pa;rw [hm] at tm;rw [hp] at tp;obtain ⟨g1,e1⟩ : ∃ c,c=(!a || !b):=⟨_,rfl⟩
 obtain ⟨g2,e2⟩ : ∃ c,c=(g1 || !yc key):=⟨_,rfl⟩
 obtain ⟨g3,e3⟩ : ∃ c,c=(g2 || decide (80<(bo.length:Int))):=⟨_,rfl⟩
 obtain ⟨g4,e4⟩ : ∃ c,c=(g3 || decide (te<0)):=⟨_,rfl⟩
 obtain ⟨g5,e5⟩ : ∃ c,c=(g4 || decide (3<te)):=⟨_,rfl⟩
 obtain ⟨g6,e6⟩ : ∃ c,c=(g5 || decide (cl<0)):=⟨_,rfl⟩
 obtain ⟨g7,e7⟩ : ∃ c,c=(g6 || decide (3<cl)):=⟨_,rfl⟩
 obtain ⟨g8,e8⟩ : ∃ c,c=(g7 || decide (se<0)):=⟨_,rfl⟩
 obtain ⟨g9,e9⟩ : ∃ c,c=(g8 || decide (1073741824<se)):=⟨_,rfl⟩
 have oe:sW cl se te key me pa bo = !g9:=by
  unfold sW;rw [hm,hp,e9,e8,e7,e6,e5,e4,e3,e2,e1];simp only;rw [Bool.eq_iff_iff];simp only [abv,Bool.not_eq_true',abn,Bool.or_eq_false_iff,decide_eq_false_iff_not,Bool.not_eq_false'];cases a <;> cases b <;> cases yc key <;> simp <;> omega
 unfold dH;refine ae.bind tm (ae.bind tp ?_);refine ae.bind (r:=((),(),m,p,g1,(cl,se,te,key,me,pa,bo,()),mM,())) (.of fun F=>by cases a <;> rw [e1] <;> rfl) ?_;refine ae.bind (r:=((),(),m,p,g2,(cl,se,te,key,me,pa,bo,()),mM,())) ?_ ?_
 ·cases g1
  ·rw [e2]
   exact ae.pos rfl (ae.bind (IW key) (.ret _))
  ·rw [e2]
   exact ae.neg (by simp) (.ret _)
 refine ae.bind (r:=((),(),m,p,g3,(cl,se,te,key,me,pa,bo,()),mM,())) (.of fun F=>by cases g2 <;> rw [e3] <;> rfl) ?_;refine ae.bind (r:=((),(),m,p,g4,(cl,se,te,key,me,pa,bo,()),mM,())) (.of fun F=>by cases g3 <;> rw [e4] <;> rfl) ?_;refine ae.bind (r:=((),(),m,p,g5,(cl,se,te,key,me,pa,bo,()),mM,())) (.of fun F=>by cases g4 <;> rw [e5] <;> rfl) ?_;refine ae.bind (r:=((),(),m,p,g6,(cl,se,te,key,me,pa,bo,()),mM,())) (.of fun F=>by cases g5 <;> rw [e6] <;> rfl) ?_;refine ae.bind (r:=((),(),m,p,g7,(cl,se,te,key,me,pa,bo,()),mM,())) (.of fun F=>by cases g6 <;> rw [e7] <;> rfl) ?_;refine ae.bind (r:=((),(),m,p,g8,(cl,se,te,key,me,pa,bo,()),mM,())) (.of fun F=>by cases g7 <;> rw [e8] <;> rfl) ?_;refine ae.bind (r:=((),(),m,p,g9,(cl,se,te,key,me,pa,bo,()),mM,())) (.of fun F=>by cases g8 <;> rw [e9] <;> rfl) ?_;unfold rqG;rw [oe,hm,hp];cases g9
 ·exact ae.neg (by simp) (.ret _)
 ·exact ae.pos rfl (.ret _)
end Go.Vm
namespace Go.Vm
open Go.Proofs
def bM (b:By):By:=if (kN b).2=0 then (kN b).1 else b
def rq4 (r:Rq) (b:By):Rq×Bool:=rqG r.1 r.2.1 r.2.2.1 r.2.2.2.1 r.2.2.2.2.1 r.2.2.2.2.2.1 b
abbrev Rq.key (r:Rq):By:=r.2.2.2.1
abbrev Rq.me (r:Rq):By:=r.2.2.2.2.1
abbrev Rq.pa (r:Rq):By:=r.2.2.2.2.2.1
abbrev Rq.bo (r:Rq):By:=r.2.2.2.2.2.2.1
def jz (l:List RlT) (m s:By):Option (List PhT):=if eR l m s<0 then none else (l[(eR l m s).toNat]?).map (·.2.2.1)
def kK (r:Rq) (l:List RlT):Rq×List PhT×Int :=
 if 80<r.bo.length then (mM,[],413) else
 if (rq4 r (bM r.bo)).2=false then (mM,[],400) else
 match jz l (rq4 r (bM r.bo)).1.me (rq4 r (bM r.bo)).1.pa with
 | none=>(mM,[],400)
 | some p=>((rq4 r (bM r.bo)).1,p,0)
theorem Gr (b:By):(bM b).length≤b.length:=by
 unfold bM;split
 ·unfold kN
  cases h:pV b with
  | error e=>exact Nat.zero_le _
  | ok v=>exact (Iz h).2.1
 ·exact Nat.le_refl _
theorem MT (b:By) (hl:b.length≤1000):bM (bM b)=bM b:=by
 by_cases h:(kN b).2=0
 ·have hb:bM b=(kN b).1:=by unfold bM; rw [if_pos h]
  rw [hb];unfold kN at h ⊢
  cases ha:pV b with
  | error e =>
   rw [ha] at h;exact absurd h (by have:=zI ha (by omega); simpa using this)
  | ok v =>
   simp only;unfold bM kN;rw [Ma ha];rfl
 ·have hb:bM b=b:=by unfold bM; rw [if_neg h]
  rw [hb,hb]
theorem D5 {r:Rq} {b:By} (h:(rq4 r b).2=true):(gQ r.me).2=true∧(gD r.pa).2=true∧(rq4 r b).1=(r.1,r.2.1,r.2.2.1,r.key,(gQ r.me).1,(gD r.pa).1,b,()):=by
 unfold rq4 rqG at h ⊢
 split at h
 ·rename_i hk
  rw [if_pos hk];unfold sW at hk;simp only [abv] at hk;exact ⟨hk.1.1.1.1,hk.1.1.1.2,rfl⟩
 ·cases h
theorem Ni (r:Rq) (l:List RlT) (h:(kK r l).2.2=0):kK (kK r l).1 l=kK r l:=by
 unfold kK at h;by_cases h1:80<r.bo.length
 ·rw [if_pos h1] at h; cases h
 rw [if_neg h1] at h;by_cases h2:(rq4 r (bM r.bo)).2=false
 ·rw [if_pos h2] at h; cases h
 rw [if_neg h2] at h;have JW:(rq4 r (bM r.bo)).2=true:=by simpa using h2
 obtain ⟨m1,p1,e1⟩:=D5 JW;have hj:kK r l=match jz l (rq4 r (bM r.bo)).1.me (rq4 r (bM r.bo)).1.pa with
   | none=>(mM,[],400)
   | some p=>((rq4 r (bM r.bo)).1,p,0):=by
  show kK r l = _;conv=>lhs; unfold kK
  rw [if_neg h1,if_neg h2]
 cases hp:jz l (rq4 r (bM r.bo)).1.me (rq4 r (bM r.bo)).1.pa with
 | none=>rw [hp] at h; cases h
 | some p =>
  rw [hp] at hj;rw [hj];show kK (rq4 r (bM r.bo)).1 l = _;have hk:rq4 (rq4 r (bM r.bo)).1 (bM (rq4 r (bM r.bo)).1.bo)=((rq4 r (bM r.bo)).1,true):=by
   rw [e1];show rqG r.1 r.2.1 r.2.2.1 r.key (gQ r.me).1 (gD r.pa).1 (bM (bM r.bo)) = _;rw [MT _ (by omega)];have oe:sW r.1 r.2.1 r.2.2.1 r.key r.me r.pa (bM r.bo)=true:=by
    unfold rq4 rqG at JW;split at JW
    ·assumption
    ·cases JW
   have Zc:sW r.1 r.2.1 r.2.2.1 r.key (gQ r.me).1 (gD r.pa).1 (bM r.bo)=true:=by
    unfold sW at oe ⊢
    rw [yC _ m1,ze _ p1];simp only [abv] at oe ⊢
    exact ⟨⟨⟨⟨trivial,trivial⟩,oe.1.1.2⟩,oe.1.2⟩,oe.2⟩
   unfold rqG;rw [if_pos Zc,yC _ m1,ze _ p1]
  conv=>lhs; unfold kK
  have hb:(rq4 r (bM r.bo)).1.bo=bM r.bo:=by rw [e1]
  have rX:=Gr r.bo;rw [if_neg (by rw [hb]; omega),hk,if_neg (by simp),hp]
abbrev zB:By := [80,85,84]
theorem NQ:eR oi lj (47 :: iA)=0:=by
 have f0:jQ (lj,47 :: iA,wF,()) lj (47 :: iA)=true:=by
  have:BE (bG (47 :: iA)) (bG (47 :: iA))=true:=by decide
  unfold jQ rj;simp only [this,KG,Hy,Bool.and_true]
  decide
 unfold eR oi nY;rw [f0,if_pos rfl];rfl
theorem Pk:eR oi zB (47 :: iA) = -1:=by
 have f0:jQ (lj,47 :: iA,wF,()) zB (47 :: iA)=false:=by
  have:(decide (lj=zB) || decide (lj = [42]))=false:=by decide
  unfold jQ;simp only [this,Bool.false_and]
 have f1:jQ (lj,47 :: (yR ++ [47,42]),Gi,()) zB (47 :: iA)=false:=by
  have:(decide (lj=zB) || decide (lj = [42]))=false:=by decide
  unfold jQ;simp only [this,Bool.false_and]
 have f2:jQ (Pf,[47,42,42],Ge,()) zB (47 :: iA)=false:=by
  have:(decide (Pf=zB) || decide (Pf = [42]))=false:=by decide
  unfold jQ;simp only [this,Bool.false_and]
 unfold eR oi nY;rw [f0,if_neg abw];unfold nY;rw [f1,if_neg abw];unfold nY;rw [f2,if_neg abw];rfl
end Go.Vm
