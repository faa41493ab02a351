import Derived.Test.YtihpjgcbmipdbaaGreatDoorPj18
import Derived.Test.YtihpjgcbmipdbaaGreatDoorFlaw23
set_option linter.unusedVariables false
set_option linter.unusedSimpArgs false
namespace Go.Vm
open Go.Lib (decodeL decDigits itoa)
theorem A6 (d:Nat) (v:JV):dv d v=yi (match d with | 0=>none | d+1=>some (dv d)) v:=by cases d <;> rfl
theorem Ll (d:Nat):pn d .null=(1,[110,117,108,108],[],0,[],[],()):=by unfold pn; rw [A6]; rfl
theorem Nd (d:Nat):pn d (.bool true)=(2,[116,114,117,101],[],0,[],[],()):=by unfold pn; rw [A6]; rfl
theorem Ie (d:Nat):pn d (.bool false)=(2,[102,97,108,115,101],[],0,[],[],()):=by unfold pn; rw [A6]; rfl
theorem Pq (d:Nat) (n:Int):pn d (.int n)=(3,itoa n,[],n,[],[],()):=by unfold pn; rw [A6]; rfl
theorem On (d:Nat) (t:By):pn d (.str t)=(4,quo t,t,0,[],[],()):=by unfold pn; rw [A6]; rfl
abbrev DS:By := [110,117,108,108]
abbrev DE:By := [116,114,117,101]
abbrev yh:By := [102,97,108,115,101]
noncomputable def DT (F:Nat) (x:RS):Option (V9×RS):=(ar F ((x.1,x.2.1,x.2.2.1,x.2.2.2.1,()),DS)).bind fun v8=>if v8.1=true then some ((1,[110,117,108,108],[],0,[],[],()),v8.2.1,v8.2.2.1,v8.2.2.2.1,v8.2.2.2.2.1,()) else (ar F ((v8.2.1,v8.2.2.1,v8.2.2.2.1,v8.2.2.2.2.1,()),DE)).bind fun v9=>if v9.1=true then some ((2,[116,114,117,101],[],0,[],[],()),v9.2.1,v9.2.2.1,v9.2.2.2.1,v9.2.2.2.2.1,()) else (ar F ((v9.2.1,v9.2.2.1,v9.2.2.2.1,v9.2.2.2.2.1,()),yh)).bind fun v10=>if v10.1=true then some ((2,[102,97,108,115,101],[],0,[],[],()),v10.2.1,v10.2.2.1,v10.2.2.2.1,v10.2.2.2.2.1,()) else (bh F (v10.2.1,v10.2.2.1,v10.2.2.2.1,v10.2.2.2.2.1,())).bind fun v11=>some v11
theorem wZ (F:Nat) (R:RS→Option (V9×RS)) (x:RS):cj F R x=(au F (x.1,x.2.1,x.2.2.1,x.2.2.2.1,())).bind fun v0 =>
  if (!decide (v0.2.2.2.2.1=0))=true then some ((0,[],[],0,[],[],()),v0.2.1,v0.2.2.1,v0.2.2.2.1,v0.2.2.2.2.1,())
  else (ak F ((v0.2.1,v0.2.2.1,v0.2.2.2.1,v0.2.2.2.2.1,()),123)).bind fun v1 =>
   if v1.1=true then (aK F R (v1.2.1,v1.2.2.1,v1.2.2.2.1,v1.2.2.2.2.1,())).bind fun v2=>some v2
   else (ak F ((v1.2.1,v1.2.2.1,v1.2.2.2.1,v1.2.2.2.2.1,()),91)).bind fun v3 =>
    if v3.1=true then (aQ F R (v3.2.1,v3.2.2.1,v3.2.2.2.1,v3.2.2.2.2.1,())).bind fun v4=>some v4
    else (ak F ((v3.2.1,v3.2.2.1,v3.2.2.2.1,v3.2.2.2.2.1,()),34)).bind fun v5 =>
     if v5.1=true then (aI F (v5.2.1,v5.2.2.1,v5.2.2.2.1,v5.2.2.2.2.1,())).bind fun v6=>(bq F v6.1).bind fun v7=>some ((4,v7,v6.1,0,[],[],()),v6.2.1,v6.2.2.1,v6.2.2.2.1,v6.2.2.2.2.1,())
     else DT F v5.2:=rfl
theorem zZ (s x:By) (hx:x <:+ s) (hs:s.length≤1000) (d:Nat) (hd:d≤8) : ∃ y,ae (fun F=>DT F (st s x (8 - (d:Int)) 0)) y∧RV9 s d (if x.take 4=DS then .ok (.null,x.drop 4) else if x.take 4=DE then .ok (.bool true,x.drop 4) else if x.take 5=yh then .ok (.bool false,x.drop 5) else match uh x with
  | none => .error 3
  | some (n,r) => .ok (.int n,r)) y:=by
 have e1:=fun F=>Ef F s x DS hx hs (by decide) (8 - (d:Int)) 0
 have e2:=fun F=>Ef F s x DE hx hs (by decide) (8 - (d:Int)) 0
 have e3:=fun F=>Ef F s x yh hx hs (by decide) (8 - (d:Int)) 0
 by_cases w1:x.take 4=DS
 ·have f1 : ∀ F,ar F (st s x (8 - (d:Int)) 0,DS)=some (true,st s (x.drop 4) (8 - (d:Int)) 0):=fun F=>(e1 F).trans (congrArg some (if_pos w1))
  rw [if_pos w1];refine ⟨_,?_,by show _ = _; rw [Ll]⟩;unfold DT;refine ae.bind (.of f1) ?_;exact ae.pos rfl (.ret _)
 have f1 : ∀ F,ar F (st s x (8 - (d:Int)) 0,DS)=some (false,st s x (8 - (d:Int)) 0):=fun F=>(e1 F).trans (congrArg some (if_neg w1))
 rw [if_neg w1];by_cases w2:x.take 4=DE
 ·have f2 : ∀ F,ar F (st s x (8 - (d:Int)) 0,DE)=some (true,st s (x.drop 4) (8 - (d:Int)) 0):=fun F=>(e2 F).trans (congrArg some (if_pos w2))
  rw [if_pos w2];refine ⟨_,?_,by show _ = _; rw [Nd]⟩;unfold DT;refine ae.bind (.of f1) ?_;refine ae.neg abw ?_;refine ae.bind (.of f2) ?_;exact ae.pos rfl (.ret _)
 have f2 : ∀ F,ar F (st s x (8 - (d:Int)) 0,DE)=some (false,st s x (8 - (d:Int)) 0):=fun F=>(e2 F).trans (congrArg some (if_neg w2))
 rw [if_neg w2];by_cases w3:x.take 5=yh
 ·have f3 : ∀ F,ar F (st s x (8 - (d:Int)) 0,yh)=some (true,st s (x.drop 5) (8 - (d:Int)) 0):=fun F=>(e3 F).trans (congrArg some (if_pos w3))
  rw [if_pos w3];refine ⟨_,?_,by show _ = _; rw [Ie]⟩;unfold DT;refine ae.bind (.of f1) ?_;refine ae.neg abw ?_;refine ae.bind (.of f2) ?_;refine ae.neg abw ?_;refine ae.bind (.of f3) ?_;exact ae.pos rfl (.ret _)
 have f3 : ∀ F,ar F (st s x (8 - (d:Int)) 0,yh)=some (false,st s x (8 - (d:Int)) 0):=fun F=>(e3 F).trans (congrArg some (if_neg w3))
 rw [if_neg w3];obtain ⟨y,n1,n2⟩:=MP s x hx hs (8 - (d:Int));refine ⟨y,?_,?_⟩
 ·unfold DT
  refine ae.bind (.of f1) ?_;refine ae.neg abw ?_;refine ae.bind (.of f2) ?_;refine ae.neg abw ?_;refine ae.bind (.of f3) ?_;refine ae.neg abw ?_;exact ae.bind n1 (.ret _)
 ·cases hn:uh x with
  | none =>
   rw [hn] at n2;obtain ⟨r',rn,rfl⟩:=n2;refine ⟨⟨by decide,r',_,rfl,rn,by omega,by omega⟩,?_⟩;show (1:Nat)≤9000 * (d+1);omega
  | some w =>
   obtain ⟨n,q⟩:=w;rw [hn] at n2;subst n2;show _ = _;rw [Pq]
theorem yO (s:By) (hs:s.length≤1000) (d:Nat) (NF:d≤8) (R:Nat→RS→Option (V9×RS)) (hR : ∀ d',d=d'+1→VT9 s d' R):VT9 s d (fun F=>cj F (R F)):=by
 intro r hr;have hv:hP d r=qG (match d with | 0=>none | d+1=>some (hP d)) r:=by cases d <;> rfl
 rw [hv];have hb:=jU s r hr hs (8 - (d:Int)) 0;have jn:skp r <:+ s:=(av r).trans hr;have hi:=fun z F=>kz s r hr F (8 - (d:Int)) 0 z
 unfold qG;have n0 : ¬ (!decide ((0:Int)=0))=true:=by decide
 cases hc:skp r with
 | nil =>
  rw [hc] at hb jn;simp only [hc,KM] at hi;obtain ⟨y,w1,w2⟩:=zZ s [] jn hs d NF;refine ⟨y,?_,w2⟩;refine ae.congr (m:=fun F => _) ?_ fun F=>wZ F (R F) _
  refine ae.bind hb ?_;refine ae.neg n0 ?_;refine ae.bind (.of (hi 123)) ?_;refine ae.neg abw ?_;refine ae.bind (.of (hi 91)) ?_;refine ae.neg abw ?_;refine ae.bind (.of (hi 34)) ?_;exact ae.neg abw w1
 | cons c t =>
  rw [hc] at hb jn;simp only [hc,jS] at hi;have TG:=cT jn;have hl:=eY jn;simp only [abp] at hl;simp only;by_cases c1:c=123
  ·subst c1
   have h1:=hi 123;simp only [decide_true] at h1;rw [if_pos rfl];obtain ⟨y,o1,o2⟩:=Lg s hs d NF R hR t jn;refine ⟨y,?_,o2⟩;refine ae.congr (m:=fun F => _) ?_ fun F=>wZ F (R F) _
   refine ae.bind hb ?_;refine ae.neg n0 ?_;refine ae.bind (.of h1) ?_;refine ae.pos rfl ?_;exact ae.bind o1 (.ret _)
  rw [if_neg c1];have h1:=hi 123;simp only [abu c1] at h1;by_cases c2:c=91
  ·subst c2
   have h2:=hi 91;simp only [decide_true] at h2;rw [if_pos rfl];obtain ⟨y,o1,o2⟩:=SD s hs d NF R hR t jn;refine ⟨y,?_,o2⟩;refine ae.congr (m:=fun F => _) ?_ fun F=>wZ F (R F) _
   refine ae.bind hb ?_;refine ae.neg n0 ?_;refine ae.bind (.of h1) ?_;refine ae.neg abw ?_;refine ae.bind (.of h2) ?_;refine ae.pos rfl ?_;exact ae.bind o1 (.ret _)
  rw [if_neg c2];have h2:=hi 91;simp only [abu c2] at h2;by_cases c3:c=34
  ·subst c3
   have h3:=hi 34;simp only [decide_true] at h3;rw [if_pos rfl];obtain ⟨y,t1,t2⟩:=KN s t jn hs (8 - (d:Int));have run : ∀ (q:By),ae (fun F=>bq F y.1) q→ae (fun F=>cj F (R F) (st s r (8 - (d:Int)) 0)) ((4,q,y.1,0,[],[],()),y.2):=by
    intro q hq;refine ae.congr (m:=fun F => _) ?_ fun F=>wZ F (R F) _
    refine ae.bind hb ?_;refine ae.neg n0 ?_;refine ae.bind (.of h1) ?_;refine ae.neg abw ?_;refine ae.bind (.of h2) ?_;refine ae.neg abw ?_;refine ae.bind (.of h3) ?_;refine ae.pos rfl ?_;refine ae.bind t1 ?_;exact ae.bind hq (.ret _)
   cases ht:txt t with
   | none =>
    rw [ht] at t2;obtain ⟨r',rn,rfl⟩:=t2;refine ⟨_,run _ (AY [] (by simp)),⟨by decide,r',_,rfl,rn,by omega,by omega⟩,?_⟩;show (2:Nat)≤9000 * (d+1);omega
   | some w =>
    obtain ⟨tx,q⟩:=w;rw [ht] at t2;subst t2;obtain ⟨_,_,t3⟩:=yf t ht;have:=KB tx;refine ⟨_,run _ (AY tx (by omega)),?_⟩;show _ = _;rw [On]
  rw [if_neg c3];have h3:=hi 34;simp only [abu c3] at h3;obtain ⟨y,w1,w2⟩:=zZ s (c :: t) jn hs d NF;refine ⟨y,?_,w2⟩;refine ae.congr (m:=fun F => _) ?_ fun F=>wZ F (R F) _
  refine ae.bind hb ?_;refine ae.neg n0 ?_;refine ae.bind (.of h1) ?_;refine ae.neg abw ?_;refine ae.bind (.of h2) ?_;refine ae.neg abw ?_;refine ae.bind (.of h3) ?_;exact ae.neg abw w1
theorem OP (s:By) (hs:s.length≤1000) : ∀ (d:Nat),d≤8 → ∀ j,VT9 s d (fun F=>aB F (F - j)):=by
 intro d;induction d with
 | zero =>
  intro hd j r hr;obtain ⟨y,h1,h2⟩:=yO s hs 0 hd (fun F=>aB F (F - (j+1))) (fun d' h=>by omega) r hr;refine ⟨y,h1.evt (j+1) fun F hF => ?_,h2⟩;show aB F (F - j) _ = _;rw [show F - j=(F - (j+1))+1 by omega];rfl
 | succ d ih =>
  intro hd j r hr;obtain ⟨y,h1,h2⟩:=yO s hs (d+1) hd (fun F=>aB F (F - (j+1))) (fun d' h=>(Nat.succ.inj h) ▸ ih (by omega) (j+1)) r hr;refine ⟨y,h1.evt (j+1) fun F hF => ?_,h2⟩;show aB F (F - j) _ = _;rw [show F - j=(F - (j+1))+1 by omega];rfl
def ofP (s:By):V9×Int:=match pV s with
 | .ok v=>(pn 8 v,0)
 | .error e=>(z9,(e:Int))
theorem Wm (s:By) (hs:s.length≤1000):ae (fun F=>ia F s) (ofP s):=by
 unfold ia ofP pV;by_cases h4:400<s.length
 ·rw [if_pos h4]
  exact ae.pos (by have:(400:Int)<(s.length:Int):=by omega
                   simpa using this) (.ret _)
 ·rw [if_neg h4]
  refine ae.neg (by have : ¬ (400:Int)<(s.length:Int):=by omega
                    simpa using this) ?_
  obtain ⟨⟨v,x⟩,h1,h2⟩:=OP s hs 8 (Nat.le_refl _) 0 s (List.suffix_refl s);have e0:st s s (8 - ((8:Nat):Int)) 0=(s,0,0,0,()):=by unfold st; rw [Nat.sub_self]; rfl
  rw [e0] at h1;have ND:ae (fun F=>fJ F (s,0,0,0,())) (v,x):=h1;refine ae.bind ND ?_;cases hv:hP 8 s with
  | error e =>
   rw [hv] at h2;obtain ⟨⟨he,r,k,hx,hr,hk⟩,_⟩:Bad s e x ∧ _:=h2;subst hx;have hp:=jU s r hr hs k e;refine ae.bind hp ?_;have J0 : ¬ (e:Int)=0:=by omega
   refine ae.bind (r:=(((),(),(),z9,st s (skp r) k e,v,()):Unit×Unit×Unit×V9×RS×V9×Unit)) ?_ ?_
   ·refine .of fun F => ?_
    unfold st;simp only [bad_eq,abo,if_neg J0,ite_self];rfl
   ·exact ae.pos (by simpa [st] using he) (.ret _)
  | ok w =>
   obtain ⟨v',r⟩:=w;rw [hv] at h2;have h2:(v,x)=(pn 8 v',st s r (8 - ((8:Nat):Int)) 0):=h2
   injection h2 with h2 JW
   subst h2; subst JW;obtain ⟨_,o2,_,_⟩:=vc 8 s v' r hv;have hp:=jU s r o2 hs (8 - ((8:Nat):Int)) 0;refine ae.bind hp ?_;have pM:skp r <:+ s:=(av r).trans o2;by_cases hq:skp r = []
   ·simp only
    rw [if_pos hq,hq];refine ae.bind (r:=(((),(),(),z9,st s [] (8 - ((8:Nat):Int)) 0,pn 8 v',()):Unit×Unit×Unit×V9×RS×V9×Unit)) ?_ ?_
    ·exact ae.neg (by simp [st]) (.ret _)
    ·exact ae.neg (by simp [st]) (.ret _)
   ·simp only
    rw [if_neg hq];have hl:=eY pM;have yo:=List.length_pos_iff.2 hq;refine ae.bind (r:=(((),(),(),z9,st s (skp r) (8 - ((8:Nat):Int)) 3,pn 8 v',()):Unit×Unit×Unit×V9×RS×V9×Unit)) ?_ ?_
    ·refine ae.pos (by rw [abn]; show ((s.length - (skp r).length:Nat):Int)<(s.length:Int); omega) (.of fun F => ?_)
     unfold st;simp only [bad_eq,abo,if_true];rfl
    ·exact ae.pos (by simp [st]) (.ret _)
end Go.Vm
namespace Go.Vm
open Go.Proofs
open Go.Lib (decodeL decDigits itoa)
end Go.Vm
namespace Go.Vm
open Go.Lib (decodeL decodeN decodeL_N decode_N decodeN_shape decodeL_le)
abbrev EnT:=Int×By×Int×Int×Int×Int×By×Int×Int×Int×By×By×By×By×Unit
abbrev EnT.key (e:EnT):By:=e.2.1
abbrev EnT.method (e:EnT):By:=e.2.2.2.2.2.2.2.2.2.2.2.1
abbrev EnT.path (e:EnT):By:=e.2.2.2.2.2.2.2.2.2.2.2.2.1
abbrev EnT.body (e:EnT):By:=e.2.2.2.2.2.2.2.2.2.2.2.2.2.1
end Go.Vm
namespace Go.Vm
open Go.Lib (decodeL decodeN decodeL_N decode_N decodeN_shape decodeL_le)
theorem Mm (s:B8) (hs:s.length≤1000000000000) (p:Nat) (hp:p≤s.length) (out at':List Int) (ho:out.length+(s.length - p)≤1000000000000) (ha:at'.length+(s.length - p)≤1000000000000) :
  af bY (s,(),(),(p:Int),out,at',()) ((),(),out ++ (dZ (s.drop p)).map (·.1),at' ++ ats p (dZ (s.drop p)),()):=by
 have main : ∀ n p out at',s.length - p≤n→p≤s.length→out.length+(s.length - p)≤1000000000000→at'.length+(s.length - p)≤1000000000000 →
   af bY (s,(),(),(p:Int),out,at',()) ((),(),out ++ (dZ (s.drop p)).map (·.1),at' ++ ats p (dZ (s.drop p)),()):=by
  intro n;induction n with
  | zero =>
   intro p out at' hn hp ho ha;have:p=s.length:=by omega
   subst this;refine af.fin (ae.of fun F => ?_);unfold bY;have h : ¬ ((s.length:Nat):Int)<(s.length:Int):=by omega
   simp [h,ju,ats]
  | succ n ih =>
   intro p out at' hn hp ho ha;by_cases aM:p<s.length
   ·have yo:=cS (s.drop p)
    have Y6:=FA aM;have h:(p:Int)<(s.length:Int):=by omega
    have e1:((out.length:Int)+1) * 8≤140737488355328:=by omega
    have e2:((at'.length:Int)+1) * 8≤140737488355328:=by omega
    rw [lB (tP aM),xY];refine af.step (x':=(s,(),(),((p+(decodeL (s.drop p)).2:Nat):Int),out ++ [((decodeL (s.drop p)).1:Int)],at' ++ [(p:Int)],())) (ae.of fun F => ?_) ?_
    ·unfold bY
     have e1':(out.length+1) * 8≤140737488355328:=by omega
     have e2':(at'.length+1) * 8≤140737488355328:=by omega
     simp only [h,decide_true,if_true,eV s p hp,abo,F9 F _ (tP aM),abp,List.length_nil,Nat.zero_add,e1',e2'];rw [wrap64 _ (by omega) (by omega)];rfl
    ·have:=ih (p+(decodeL (s.drop p)).2) (out ++ [((decodeL (s.drop p)).1:Int)]) (at' ++ [(p:Int)]) (by omega) Y6 (by simp; omega) (by simp; omega)
     simpa [ats,PM aM] using this
   ·have:p=s.length:=by omega
    subst this;refine af.fin (ae.of fun F => ?_);unfold bY;have h : ¬ ((s.length:Nat):Int)<(s.length:Int):=by omega
    simp [h,ju,ats]
 exact main _ p out at' (Nat.le_refl _) hp ho ha
theorem sP (s:B8) (hs:s.length≤1000000000000):ae (fun F=>cZ F s) ((dZ s).map (·.1),ats 0 (dZ s)):=by
 unfold cZ;have:=Mm s hs 0 (by omega) [] [] (by simp; omega) (by simp; omega);refine this.run.bind ?_;exact ae.of fun F=>by simp
end Go.Vm
namespace Go.Vm
open Go.Proofs
open Go.Lib (decodeL decodeN decodeL_N decode_N decodeN_shape decodeL_le)
theorem yP (x:By) (hx:x.length≤1000000) : ∀ (n i:Nat),i+n=x.length→af dG (x,(i:Int),()) (if (x.drop i).all FC=true then .inl (x,()) else .inr (false,()))
 | 0,i,h=>by
  refine af.fin (.of fun F => ?_);unfold dG;rw [if_neg (by rw [abn]; simp only; omega),List.drop_eq_nil_of_le (by omega)];rfl
 | n+1,i,h=>by
  have hi:i<x.length:=by omega
  have o6:idx x (i:Int)=some x[i]:=bc _ _ _ (List.getElem?_eq_getElem hi);have hw:IntKind.i64.wrap ((i:Int)+1)=((i+1:Nat):Int):=by rw [wrap64 _ (by omega) (by omega)]; omega
  rw [List.drop_eq_getElem_cons hi,List.all_cons];have ih:=yP x hx n (i+1) (by omega);generalize x[i]=c at *
  have body : ∀ F,dG F (x,(i:Int),())=some (if FC c=true then .inl (x,((i+1:Nat):Int),()) else .inr (.inr (false,()))):=by
   intro F;unfold dG;rw [if_pos (by rw [abn]; simp only; omega)];simp only [o6,abo];unfold FC;by_cases a1:97≤c.toNat
   ·have a1':(97:Int)≤(c.toNat:Int):=by omega
    by_cases a2:c.toNat≤122
    ·have a2':(c.toNat:Int)≤122:=by omega
     simp only [a1',a2',a1,a2,decide_true,if_true,abo,Bool.true_eq_false,if_false,Bool.and_self,Bool.true_or,Bool.not_true,abq,hw]
    ·have a2' : ¬ (c.toNat:Int)≤122:=by omega
     have a3:(48:Int)≤(c.toNat:Int):=by omega
     have a4 : ¬ (c.toNat:Int)≤57:=by omega
     have a5 : ¬ c.toNat≤57:=by omega
     simp only [a1',a2',a1,a2,a3,a4,a5,o6,decide_true,decide_false,if_true,abo,Bool.and_false,Bool.or_false,Bool.not_false,abq,if_false]
   ·have a1' : ¬ (97:Int)≤(c.toNat:Int):=by omega
    by_cases a3:48≤c.toNat
    ·have a3':(48:Int)≤(c.toNat:Int):=by omega
     by_cases a4:c.toNat≤57
     ·have a4':(c.toNat:Int)≤57:=by omega
      simp only [a1',a1,a3',a3,a4',a4,o6,decide_true,decide_false,if_true,abo,Bool.false_and,Bool.and_self,Bool.or_true,Bool.not_true,abq,if_false,hw]
     ·have a4' : ¬ (c.toNat:Int)≤57:=by omega
      simp only [a1',a1,a3',a3,a4',a4,o6,decide_true,decide_false,if_true,abo,Bool.false_and,Bool.and_false,Bool.or_false,Bool.not_false,abq,if_false]
    ·have a3' : ¬ (48:Int)≤(c.toNat:Int):=by omega
     simp only [a1',a1,a3',a3,o6,decide_true,decide_false,if_true,abo,Bool.false_and,Bool.or_false,Bool.not_false,abq,if_false]
  by_cases hc:FC c=true
  ·rw [hc,Bool.true_and]
   exact af.step (.of fun F=>(body F).trans (by rw [if_pos hc])) ih
  ·have vG:FC c=false:=by simpa using hc
   rw [vG,Bool.false_and];exact af.fin (.of fun F=>(body F).trans (by rw [if_neg hc]; rfl))
theorem A9 (x:By) (hx:x.length≤1000000):ae (fun F=>dF F x) (nmP x):=by
 unfold dF nmP;have h:=yP x hx x.length 0 (by omega);rw [List.drop_zero] at h;refine ae.bind h.run ?_;by_cases ha:x.all FC=true
 ·rw [if_pos ha,ha,Bool.true_and]
  simp only [aA];by_cases h1:1≤x.length
  ·have ND:(1:Int)≤(x.length:Int):=by omega
   refine .of fun F => ?_
   rw [if_pos (abt ND),abt h1,Bool.true_and];simp only [abo];congr 1;rw [Bool.eq_iff_iff,abn,abn];omega
  ·have ND : ¬ (1:Int)≤(x.length:Int):=by omega
   refine .of fun F => ?_
   rw [if_neg (by rw [abn]; exact ND),abu h1];rfl
 ·have QV:x.all FC=false:=by simpa using ha
  rw [if_neg ha,QV];exact .of fun F=>rfl
theorem AK (x:By) (hx:x.length≤1000000) : ∀ (n i:Nat),i+n=x.length→af dU (x,(i:Int),()) (x,((i+((x.drop i).takeWhile (fun c=>c != 125)).length:Nat):Int),())
 | 0,i,h=>by
  refine af.fin (.of fun F => ?_);unfold dU;rw [if_neg (by rw [abn]; simp only; omega),List.drop_eq_nil_of_le (by omega)];rfl
 | n+1,i,h=>by
  have hi:i<x.length:=by omega
  have o6:idx x (i:Int)=some x[i]:=bc _ _ _ (List.getElem?_eq_getElem hi);have hw:IntKind.i64.wrap ((i:Int)+1)=((i+1:Nat):Int):=by rw [wrap64 _ (by omega) (by omega)]; omega
  have ih:=AK x hx n (i+1) (by omega);rw [List.drop_eq_getElem_cons hi];generalize x[i]=c at *
  have n125:((c.toNat:Int)=125)=(c=125):=nvB c 125;by_cases hc:c=125
  ·rw [List.takeWhile_cons_of_neg (by simpa using hc)]
   refine af.fin (.of fun F => ?_);unfold dU;rw [if_pos (by rw [abn]; simp only; omega)];simp only [o6,abo,n125,abt hc];rfl
  ·rw [List.takeWhile_cons_of_pos (by simpa using hc),abp,show i+(((x.drop (i+1)).takeWhile (fun c=>c != 125)).length+1)=i+1+((x.drop (i+1)).takeWhile (fun c=>c != 125)).length by omega]
   refine af.step (.of fun F => ?_) ih;unfold dU;rw [if_pos (by rw [abn]; simp only; omega)];simp only [o6,abo,n125,abu hc,Bool.not_false,if_true,hw]
theorem R6 (a:UInt8) (r:By) (hr:r.length≤1000):ae (fun F=>gO F (a :: r)) (jd (a :: r):Int):=by
 unfold gO;cases r with
 | nil=>exact ae.pos rfl (.ret _)
 | cons b q =>
  have h2 : ¬ (((a :: b :: q:By).length:Nat):Int)<2:=by simp; omega
  have hi:idx (a :: b :: q:By) 1=some b:=bc _ 1 _ rfl;have n37:((b.toNat:Int)=37)=(b=37):=nvB b 37;have n98:((b.toNat:Int)=98)=(b=98):=nvB b 98;have n107:((b.toNat:Int)=107)=(b=107):=nvB b 107;have n109:((b.toNat:Int)=109)=(b=109):=nvB b 109;have n112:((b.toNat:Int)=112)=(b=112):=nvB b 112;have n123:((b.toNat:Int)=123)=(b=123):=nvB b 123;refine ae.neg (by rw [abn]; exact h2) ?_;simp only [hi,abo,n37,n98,n107,n109,n112,n123];unfold jd;simp only;have step : ∀ (p q':Prop) [Decidable p] [Decidable q'],(if decide p=false then some ((a :: b :: q:By),decide q',()) else some ((a :: b :: q:By),true,()):Option (By×Bool×Unit))=some ((a :: b :: q:By),decide (p∨q'),()):=by
   intro p q' _ _;by_cases hp:p
   ·rw [abt hp,if_neg (by decide),abt (.inl hp)]
   ·rw [abu hp,if_pos rfl]
    by_cases hq:q'
    ·rw [abt hq,abt (.inr hq)]
    ·rw [abu hq,abu (fun hh=>hh.elim hp hq)]
  simp only [step,abo,hi,n107,n109,n112];by_cases hc:b=37∨b=98∨b=107∨b=109∨b=112
  ·have vG:(((b=37∨b=98)∨b=107)∨b=109)∨b=112:=by
    rcases hc with h | h | h | h | h <;> simp [h]
   rw [if_pos hc];exact ae.pos (abt vG) (.ret _)
  ·have vG : ¬ ((((b=37∨b=98)∨b=107)∨b=109)∨b=112):=by
    rintro ((((h | h) | h) | h) | h) <;> exact hc (by simp [h])
   rw [if_neg hc];refine ae.neg (by rw [abn]; exact vG) ?_;by_cases hb:b=123
   ·rw [if_pos hb]
    refine ae.neg (by simp only [n123,abt hb]; decide) ?_;simp only [abp] at hr;have hl:=AK (a :: b :: q) (by simp; omega) (q.length) 2 (by simp; omega);rw [show (a :: b :: q:By).drop 2=q from rfl] at hl;have JW:(((2:Nat):Nat):Int)=2:=rfl;refine ae.bind hl.run ?_;have Qp:(q.takeWhile (fun c=>c != 125)).length≤q.length:=(List.takeWhile_prefix _).length_le;by_cases hk:(q.takeWhile (fun c=>c != 125)).length<q.length
    ·have ib : ¬ (((2+(q.takeWhile (fun c=>c != 125)).length:Nat):Int)=((a :: b :: q:By).length:Int)):=by simp only [abp]; omega
     have hs:sub (a :: b :: q:By) 2 ((2+(q.takeWhile (fun c=>c != 125)).length:Nat):Int)=some (q.takeWhile (fun c=>c != 125)):=by
      have:=j4 (a :: b :: q:By) 2 (2+(q.takeWhile (fun c=>c != 125)).length) (by omega) (by simp only [abp]; omega);refine (this : _ = _).trans ?_;rw [show (a :: b :: q:By).drop 2=q from rfl,Nat.add_sub_cancel_left];congr 1;conv=>rhs; rw [← List.take_length (l:=q.takeWhile (fun c=>c != 125))]
      exact (congrArg (List.take _) (List.takeWhile_append_dropWhile (p:=fun c=>c != 125) (l:=q)).symm).trans (List.take_append_of_le_length (Nat.le_refl _))
     have hn:=A9 (q.takeWhile (fun c=>c != 125)) (by omega);refine ae.bind (r:=((((2+(q.takeWhile (fun c=>c != 125)).length:Nat):Int), !(nmP (q.takeWhile (fun c=>c != 125))),()):Int×Bool×Unit)) (ae.pos (abu ib) (ae.bind (.of fun F=>hs) (ae.bind hn (.ret _)))) ?_;by_cases yk:nmP (q.takeWhile (fun c=>c != 125))=true
     ·have hg:(if (q.takeWhile (fun c=>c != 125)).length<q.length∧nmP (q.takeWhile (fun c=>c != 125))=true then (q.takeWhile (fun c=>c != 125)).length+3 else 0)=(q.takeWhile (fun c=>c != 125)).length+3:=if_pos ⟨hk,yk⟩
      rw [hg,yk];refine ae.neg (by show ¬ (!true)=true; decide) (.of fun F => ?_);simp only;rw [wrap64 _ (by omega) (by omega)];congr 1;omega
     ·have Vh:nmP (q.takeWhile (fun c=>c != 125))=false:=by simpa using yk
      have hg:(if (q.takeWhile (fun c=>c != 125)).length<q.length∧nmP (q.takeWhile (fun c=>c != 125))=true then (q.takeWhile (fun c=>c != 125)).length+3 else 0)=0:=if_neg (fun hh=>yk hh.2);rw [hg,Vh];exact ae.pos rfl (.ret _)
    ·have he:(((2+(q.takeWhile (fun c=>c != 125)).length:Nat):Int)=((a :: b :: q:By).length:Int)):=by simp only [abp]; omega
     have hg:(if (q.takeWhile (fun c=>c != 125)).length<q.length∧nmP (q.takeWhile (fun c=>c != 125))=true then (q.takeWhile (fun c=>c != 125)).length+3 else 0)=0:=if_neg (fun hh=>hk hh.1);rw [hg];refine ae.bind (r:=((((2+(q.takeWhile (fun c=>c != 125)).length:Nat):Int),true,()):Int×Bool×Unit)) (ae.neg (by rw [abt he]; decide) (.ret _)) ?_;exact ae.pos rfl (.ret _)
   ·rw [if_neg hb]
    exact ae.pos (by simp only [n123,abu hb]; rfl) (.ret _)
theorem wj (s:By) (l:List Int) (hl:l.length≤1000000) : ∀ (n i:Nat),i+n=l.length→af dj (s,l,(i:Int),()) (if (l.drop i).all (fun x=>decide (il x≠0))=true then .inl (s,()) else .inr (false,()))
 | 0,i,h=>by
  refine af.fin (.of fun F => ?_);unfold dj;rw [if_neg (by rw [abn]; simp only; omega),List.drop_eq_nil_of_le (by omega)];rfl
 | n+1,i,h=>by
  have hi:i<l.length:=by omega
  have o6:idx l (i:Int)=some l[i]:=bc _ _ _ (List.getElem?_eq_getElem hi);have hw:IntKind.i64.wrap ((i:Int)+1)=((i+1:Nat):Int):=by rw [wrap64 _ (by omega) (by omega)]; omega
  have ih:=wj s l hl n (i+1) (by omega);rw [List.drop_eq_getElem_cons hi,List.all_cons];generalize l[i]=c at *
  by_cases h0:il c=0
  ·rw [abu (fun hh=>hh h0),Bool.false_and]
   refine af.fin (.of fun F => ?_);unfold dj;rw [if_pos (by rw [abn]; simp only; omega)];simp only [o6,abo,nW,abt h0];rfl
  ·rw [abt h0,Bool.true_and]
   refine af.step (.of fun F => ?_) ih;unfold dj;rw [if_pos (by rw [abn]; simp only; omega)];simp only [o6,abo,nW,abu h0,abq,if_false,hw]
theorem GM (s:By) (hs:s.length≤1000) : ∀ (n p:Nat),s.length - p≤n→p≤s.length→af bC (s,(p:Int),()) (match ud (s.drop p) with
  | some _ => .inl (s,())
  | none => .inr (false,())):=by
 intro n;induction n with
 | zero =>
  intro p hn hp;refine af.fin (.of fun F => ?_);unfold bC;rw [if_neg (by rw [abn]; simp only; omega),List.drop_eq_nil_of_le (by omega),Hn]
 | succ n ih =>
  intro p hn hp;by_cases aM:p<s.length
  case neg =>
   refine af.fin (.of fun F => ?_);unfold bC;rw [if_neg (by rw [abn]; simp only; omega),List.drop_eq_nil_of_le (by omega),Hn]
  have hd:s.drop p=s[p] :: s.drop (p+1):=List.drop_eq_getElem_cons aM;have o6:idx s (p:Int)=some s[p]:=bc _ _ _ (List.getElem?_eq_getElem aM);have ZN:=eV s p (by omega);have hlen:(s.drop p).length=s.length - p:=List.length_drop;have Ta:IntKind.i64.wrap ((p:Int)+1)=((p+1:Nat):Int):=by rw [wrap64 _ (by omega) (by omega)]; omega
  have ih1:=ih (p+1) (by omega) (by omega);have NB : ∀ m,(s.drop p).drop m=s.drop (p+m):=fun m=>List.drop_drop
  rw [hd] at ZN hlen NB ⊢
  rw [xX];generalize hr:s.drop (p+1)=r at *
  generalize s[p]=c at *
  have n37:((c.toNat:Int)=37)=(c=37):=nvB c 37;by_cases XH:c=37
  ·rw [if_pos XH]
   have aaJ:=Ss (c :: r);have h1:=sk (c :: r);have hgt:=R6 c r (by simp only [abp] at hlen; omega);have a7 : ∀ z,ae (fun F=>(if decide ((jd (c :: r):Int)=0)=true then some (Sum.inr (Sum.inr (false,()))) else some (Sum.inl (s,IntKind.i64.wrap ((p:Int)+(jd (c :: r):Int)),())):Option ((By×Int×Unit) ⊕ (By×Unit ⊕ Bool×Unit)))) z→ae (fun F=>bC F (s,(p:Int),())) z:=by
    intro z hz;unfold bC;refine ae.pos (by rw [abn]; simp only; omega) ?_;refine ae.bind (.of fun F=>o6) ?_;refine ae.neg (by simp only [n37,abt XH]; decide) ?_;refine ae.bind (.of fun F=>ZN) ?_;exact ae.bind hgt hz
   by_cases hg:jd (c :: r)=0
   ·rw [if_pos hg]
    exact af.fin (a7 _ (ae.pos (by rw [abn]; omega) (.ret _)))
   ·rw [if_neg hg]
    have hw:IntKind.i64.wrap ((p:Int)+(jd (c :: r):Int))=((p+jd (c :: r):Nat):Int):=by rw [wrap64 _ (by omega) (by omega)]; omega
    have ihg:=ih (p+jd (c :: r)) (by omega) (by omega);rw [← NB] at ihg;refine af.step (a7 (.inl (s,((p+jd (c :: r):Nat):Int),())) (ae.neg (by rw [abn]; omega) (.of fun F=>by rw [hw]))) ?_;cases hx:ud ((c :: r).drop (jd (c :: r))) with
    | none=>rw [hx] at ihg; exact ihg
    | some l=>rw [hx] at ihg; exact ihg
  ·rw [if_neg XH]
   refine af.step (x':=(s,((p+1:Nat):Int),())) (.of fun F => ?_) ?_
   ·unfold bC
    rw [if_pos (by rw [abn]; simp only; omega)];simp only [o6,abo,n37,abu XH,Bool.not_false,if_true,Ta]
   ·cases hx:ud r with
    | none=>rw [hx] at ih1; exact ih1
    | some l=>rw [hx] at ih1; exact ih1
theorem Gf (s:By):rT s=((dZ s).map (·.1)).all (fun x=>decide (il x≠0)):=by unfold rT; rw [List.all_map]; rfl
def xA (s:By):Bool:=decide (s.length≤60) && (Cg s).isSome
theorem DR (s:By):(rT s && (ud s).isSome)=(Cg s).isSome:=by
 have h:=E3 s.length s (Nat.le_refl _);cases hc:Cg s with
 | none =>
  rw [hc] at h;rcases h with h | h
  ·rw [h]; rfl
  ·rw [h]; simp
 | some l =>
  rw [hc] at h;obtain ⟨h1,m,h2,_⟩:=h;rw [h1,h2];rfl
theorem Lz (s:By) (hs:s.length≤1000):ae (fun F=>fP F s) (xA s):=by
 unfold fP;have QE:=xM s;refine ae.bind (sP s (by omega)) ?_;have h0:=wj s ((dZ s).map (·.1)) (by rw [List.length_map]; omega) ((dZ s).map (·.1)).length 0 (by omega);rw [List.drop_zero, ← Gf] at h0;refine ae.bind h0.run ?_;have Xw:=DR s;unfold xA;rw [← Xw];by_cases ha:rT s=true
 ·rw [if_pos ha,ha,Bool.true_and]
  simp only [aA];have h1:=GM s hs s.length 0 (by omega) (by omega);rw [List.drop_zero] at h1;refine ae.bind h1.run ?_;cases ud s with
  | none=>exact .of fun F=>by simp [aX]
  | some m =>
   refine .of fun F => ?_
   simp only [aA,Option.isSome_some,Bool.and_true];congr 1;rw [Bool.eq_iff_iff,abn,abn];omega
 ·have QV:rT s=false:=by simpa using ha
  rw [if_neg ha,QV,Bool.false_and,Bool.and_false];exact .of fun F=>rfl
end Go.Vm
