import Derived.Test.YtihpjgcbmipdbaaGreatDoorPj18
set_option linter.unusedVariables false
set_option linter.unusedSimpArgs false
namespace Go.Vm
open Go.Lib (decodeL decDigits itoa)
theorem BH (d:Nat) (v:JV):cg d v=Bz (match d with | 0=>none | d+1=>some (cg d)) v:=by cases d <;> rfl
theorem Nw (d:Nat):qj d .null=(1,[110,117,108,108],[],0,[],[],()):=by unfold qj; rw[BH]; rfl
theorem MD (d:Nat):qj d (.bool true)=(2,[116,114,117,101],[],0,[],[],()):=by unfold qj; rw[BH]; rfl
theorem Jt (d:Nat):qj d (.bool false)=(2,[102,97,108,115,101],[],0,[],[],()):=by unfold qj; rw[BH]; rfl
theorem OQ (d:Nat) (n:Int):qj d (.int n)=(3,itoa n,[],n,[],[],()):=by unfold qj; rw[BH]; rfl
theorem PI (d:Nat) (t:By):qj d (.str t)=(4,quo t,t,0,[],[],()):=by unfold qj; rw[BH]; rfl
abbrev DL:By:=[110,117,108,108]
abbrev DO:By:=[116,114,117,101]
abbrev yQ:By:=[102,97,108,115,101]
noncomputable def Ed (F:Nat) (x:RS):Option (V9×RS):=(au F ((x.1,x.2.1,x.2.2.1,x.2.2.2.1,()),DL)).bind fun v8=>if v8.1=true then some ((1,[110,117,108,108],[],0,[],[],()),v8.2.1,v8.2.2.1,v8.2.2.2.1,v8.2.2.2.2.1,()) else (au F ((v8.2.1,v8.2.2.1,v8.2.2.2.1,v8.2.2.2.2.1,()),DO)).bind fun v9=>if v9.1=true then some ((2,[116,114,117,101],[],0,[],[],()),v9.2.1,v9.2.2.1,v9.2.2.2.1,v9.2.2.2.2.1,()) else (au F ((v9.2.1,v9.2.2.1,v9.2.2.2.1,v9.2.2.2.2.1,()),yQ)).bind fun v10=>if v10.1=true then some ((2,[102,97,108,115,101],[],0,[],[],()),v10.2.1,v10.2.2.1,v10.2.2.2.1,v10.2.2.2.2.1,()) else (bp F (v10.2.1,v10.2.2.1,v10.2.2.2.1,v10.2.2.2.2.1,())).bind fun v11=>some v11
theorem wN (F:Nat) (R:RS->Option (V9×RS)) (x:RS):cB F R x=(av F (x.1,x.2.1,x.2.2.1,x.2.2.2.1,())).bind fun v0 =>
  if (!decide (v0.2.2.2.2.1=0))=true then some ((0,[],[],0,[],[],()),v0.2.1,v0.2.2.1,v0.2.2.2.1,v0.2.2.2.2.1,())
  else (al F ((v0.2.1,v0.2.2.1,v0.2.2.2.1,v0.2.2.2.2.1,()),123)).bind fun v1 =>
   if v1.1=true then (aO F R (v1.2.1,v1.2.2.1,v1.2.2.2.1,v1.2.2.2.2.1,())).bind fun v2=>some v2
   else (al F ((v1.2.1,v1.2.2.1,v1.2.2.2.1,v1.2.2.2.2.1,()),91)).bind fun v3 =>
    if v3.1=true then (aW F R (v3.2.1,v3.2.2.1,v3.2.2.2.1,v3.2.2.2.2.1,())).bind fun v4=>some v4
    else (al F ((v3.2.1,v3.2.2.1,v3.2.2.2.1,v3.2.2.2.2.1,()),34)).bind fun v5 =>
     if v5.1=true then (aM F (v5.2.1,v5.2.2.1,v5.2.2.2.1,v5.2.2.2.2.1,())).bind fun v6=>(bB F v6.1).bind fun v7=>some ((4,v7,v6.1,0,[],[],()),v6.2.1,v6.2.2.1,v6.2.2.2.1,v6.2.2.2.2.1,())
     else Ed F v5.2:=rfl
theorem AK (s x:By) (hx:x <:+ s) (hs:s.length<=1000) (d:Nat) (hd:d<=8):∃ y,ae (fun F=>Ed F (st s x (8-(d:Int)) 0)) y/\RV9 s d (if x.take 4=DL then .ok (.null,x.drop 4) else if x.take 4=DO then .ok (.bool true,x.drop 4) else if x.take 5=yQ then .ok (.bool false,x.drop 5) else match yq x with
  | none => .error 3
  | some (n,r) => .ok (.int n,r)) y:=by
 have e1:=fun F=>FJ F s x DL hx hs (by decide) (8-(d:Int)) 0
 have e2:=fun F=>FJ F s x DO hx hs (by decide) (8-(d:Int)) 0
 have e3:=fun F=>FJ F s x yQ hx hs (by decide) (8-(d:Int)) 0
 by_cases w1:x.take 4=DL
 ·have f1:∀ F,au F (st s x (8-(d:Int)) 0,DL)=some (true,st s (x.drop 4) (8-(d:Int)) 0):=fun F=>(e1 F).trans (congrArg some (if_pos w1))
  rw[if_pos w1];refine ⟨_,?_,by show _ = _; rw[Nw]⟩;unfold Ed;refine ae.bind (.of f1) ?_;exact ae.pos rfl (.ret _)
 have f1:∀ F,au F (st s x (8-(d:Int)) 0,DL)=some (false,st s x (8-(d:Int)) 0):=fun F=>(e1 F).trans (congrArg some (if_neg w1))
 rw[if_neg w1];by_cases w2:x.take 4=DO
 ·have f2:∀ F,au F (st s x (8-(d:Int)) 0,DO)=some (true,st s (x.drop 4) (8-(d:Int)) 0):=fun F=>(e2 F).trans (congrArg some (if_pos w2))
  rw[if_pos w2];refine ⟨_,?_,by show _ = _; rw[MD]⟩;unfold Ed;refine ae.bind (.of f1) ?_;refine ae.neg adj ?_;refine ae.bind (.of f2) ?_;exact ae.pos rfl (.ret _)
 have f2:∀ F,au F (st s x (8-(d:Int)) 0,DO)=some (false,st s x (8-(d:Int)) 0):=fun F=>(e2 F).trans (congrArg some (if_neg w2))
 rw[if_neg w2];by_cases w3:x.take 5=yQ
 ·have f3:∀ F,au F (st s x (8-(d:Int)) 0,yQ)=some (true,st s (x.drop 5) (8-(d:Int)) 0):=fun F=>(e3 F).trans (congrArg some (if_pos w3))
  rw[if_pos w3];refine ⟨_,?_,by show _ = _; rw[Jt]⟩;unfold Ed;refine ae.bind (.of f1) ?_;refine ae.neg adj ?_;refine ae.bind (.of f2) ?_;refine ae.neg adj ?_;refine ae.bind (.of f3) ?_;exact ae.pos rfl (.ret _)
 have f3:∀ F,au F (st s x (8-(d:Int)) 0,yQ)=some (false,st s x (8-(d:Int)) 0):=fun F=>(e3 F).trans (congrArg some (if_neg w3))
 rw[if_neg w3];obtain ⟨y,n1,n2⟩:=NM s x hx hs (8-(d:Int));refine ⟨y,?_,?_⟩
 ·unfold Ed
  refine ae.bind (.of f1) ?_;refine ae.neg adj ?_;refine ae.bind (.of f2) ?_;refine ae.neg adj ?_;refine ae.bind (.of f3) ?_;refine ae.neg adj ?_;exact ae.bind n1 (.ret _)
 ·cases hn:yq x with
  | none =>
   rw[hn] at n2;obtain ⟨r',si,rfl⟩:=n2;refine ⟨⟨by decide,r',_,rfl,si,by omega,by omega⟩,?_⟩;show (1:Nat)<=9000*(d+1);omega
  | some w =>
   obtain ⟨n,q⟩:=w;rw[hn] at n2;subst n2;show _ = _;rw[OQ]
theorem zc (s:By) (hs:s.length<=1000) (d:Nat) (OI:d<=8) (R:Nat->RS->Option (V9×RS)) (hR:∀ d',d=d'+1->VT9 s d' R):VT9 s d (fun F=>cB F (R F)):=by
 intro r hr;have hv:jF d r=H6 (match d with | 0=>none | d+1=>some (jF d)) r:=by cases d <;> rfl
 rw[hv];have hb:=ki s r hr hs (8-(d:Int)) 0;have jB:skp r <:+ s:=(aw r).trans hr;have hi:=fun z F=>lA s r hr F (8-(d:Int)) 0 z
 unfold H6;have n0:¬ (!decide ((0:Int)=0))=true:=by decide
 cases hc:skp r with
 | nil =>
  rw[hc] at hb jB;simp only[hc,LB] at hi;obtain ⟨y,w1,w2⟩:=AK s [] jB hs d OI;refine ⟨y,?_,w2⟩;refine ae.congr (m:=fun F => _) ?_ fun F=>wN F (R F) _
  refine ae.bind hb ?_;refine ae.neg n0 ?_;refine ae.bind (.of (hi 123)) ?_;refine ae.neg adj ?_;refine ae.bind (.of (hi 91)) ?_;refine ae.neg adj ?_;refine ae.bind (.of (hi 34)) ?_;exact ae.neg adj w1
 | cons c t =>
  rw[hc] at hb jB;simp only[hc,j9] at hi;have UO:=cQ jB;have hl:=fw jB;simp only[adb] at hl;simp only;by_cases c1:c=123
  ·subst c1
   have h1:=hi 123;simp only[decide_true] at h1;rw[if_pos rfl];obtain ⟨y,o1,o2⟩:=M9 s hs d OI R hR t jB;refine ⟨y,?_,o2⟩;refine ae.congr (m:=fun F => _) ?_ fun F=>wN F (R F) _
   refine ae.bind hb ?_;refine ae.neg n0 ?_;refine ae.bind (.of h1) ?_;refine ae.pos rfl ?_;exact ae.bind o1 (.ret _)
  rw[if_neg c1];have h1:=hi 123;simp only[adh c1] at h1;by_cases c2:c=91
  ·subst c2
   have h2:=hi 91;simp only[decide_true] at h2;rw[if_pos rfl];obtain ⟨y,o1,o2⟩:=SN s hs d OI R hR t jB;refine ⟨y,?_,o2⟩;refine ae.congr (m:=fun F => _) ?_ fun F=>wN F (R F) _
   refine ae.bind hb ?_;refine ae.neg n0 ?_;refine ae.bind (.of h1) ?_;refine ae.neg adj ?_;refine ae.bind (.of h2) ?_;refine ae.pos rfl ?_;exact ae.bind o1 (.ret _)
  rw[if_neg c2];have h2:=hi 91;simp only[adh c2] at h2;by_cases c3:c=34
  ·subst c3
   have h3:=hi 34;simp only[decide_true] at h3;rw[if_pos rfl];obtain ⟨y,t1,t2⟩:=LS s t jB hs (8-(d:Int));have run:∀ (q:By),ae (fun F=>bB F y.1) q->ae (fun F=>cB F (R F) (st s r (8-(d:Int)) 0)) ((4,q,y.1,0,[],[],()),y.2):=by
    intro q hq;refine ae.congr (m:=fun F => _) ?_ fun F=>wN F (R F) _
    refine ae.bind hb ?_;refine ae.neg n0 ?_;refine ae.bind (.of h1) ?_;refine ae.neg adj ?_;refine ae.bind (.of h2) ?_;refine ae.neg adj ?_;refine ae.bind (.of h3) ?_;refine ae.pos rfl ?_;refine ae.bind t1 ?_;exact ae.bind hq (.ret _)
   cases ht:txt t with
   | none =>
    rw[ht] at t2;obtain ⟨r',si,rfl⟩:=t2;refine ⟨_,run _ (Cv [] (by simp)),⟨by decide,r',_,rfl,si,by omega,by omega⟩,?_⟩;show (2:Nat)<=9000*(d+1);omega
   | some w =>
    obtain ⟨tx,q⟩:=w;rw[ht] at t2;subst t2;obtain ⟨_,_,t3⟩:=yu t ht;have:=Gu tx;refine ⟨_,run _ (Cv tx (by omega)),?_⟩;show _ = _;rw[PI]
  rw[if_neg c3];have h3:=hi 34;simp only[adh c3] at h3;obtain ⟨y,w1,w2⟩:=AK s (c::t) jB hs d OI;refine ⟨y,?_,w2⟩;refine ae.congr (m:=fun F => _) ?_ fun F=>wN F (R F) _
  refine ae.bind hb ?_;refine ae.neg n0 ?_;refine ae.bind (.of h1) ?_;refine ae.neg adj ?_;refine ae.bind (.of h2) ?_;refine ae.neg adj ?_;refine ae.bind (.of h3) ?_;exact ae.neg adj w1
theorem PS (s:By) (hs:s.length<=1000):∀ (d:Nat),d<=8 -> ∀ j,VT9 s d (fun F=>az F (F-j)):=by
 intro d;induction d with
 | zero =>
  intro hd j r hr;obtain ⟨y,h1,h2⟩:=zc s hs 0 hd (fun F=>az F (F-(j+1))) (fun d' h=>by omega) r hr;refine ⟨y,h1.evt (j+1) fun F hF => ?_,h2⟩;show az F (F-j) _ = _;rw[show F-j=(F-(j+1))+1 by omega];rfl
 | succ d ih =>
  intro hd j r hr;obtain ⟨y,h1,h2⟩:=zc s hs (d+1) hd (fun F=>az F (F-(j+1))) (fun d' h=>(Nat.succ.inj h) ▸ ih (by omega) (j+1)) r hr;refine ⟨y,h1.evt (j+1) fun F hF => ?_,h2⟩;show az F (F-j) _ = _;rw[show F-j=(F-(j+1))+1 by omega];rfl
def ofP (s:By):V9×Int:=match CT s with
 | .ok v=>(qj 8 v,0)
 | .error e=>(z9,(e:Int))
theorem Ma (s:By) (hs:s.length<=1000):ae (fun F=>dG F s) (ofP s):=by
 unfold dG ofP CT;by_cases h4:400<s.length
 ·rw[if_pos h4]
  exact ae.pos (by have:(400:Int)<(s.length:Int):=by omega
                   simpa using this) (.ret _)
 ·rw[if_neg h4]
  refine ae.neg (by have:¬ (400:Int)<(s.length:Int):=by omega
                    simpa using this) ?_
  obtain ⟨⟨v,x⟩,h1,h2⟩:=PS s hs 8 (Nat.le_refl _) 0 s (List.suffix_refl s);have e0:st s s (8-((8:Nat):Int)) 0=(s,0,0,0,()):=by unfold st; rw[Nat.sub_self]; rfl
  rw[e0] at h1;have CO:ae (fun F=>gd F (s,0,0,0,())) (v,x):=h1;refine ae.bind CO ?_;cases hv:jF 8 s with
  | error e =>
   rw[hv] at h2;obtain ⟨⟨he,r,k,hx,hr,hk⟩,_⟩:Bad s e x /\ _:=h2;subst hx;have hp:=ki s r hr hs k e;refine ae.bind hp ?_;have I7:¬ (e:Int)=0:=by omega
   refine ae.bind (r:=(((),(),(),z9,st s (skp r) k e,v,()):Unit×Unit×Unit×V9×RS×V9×Unit)) ?_ ?_
   ·refine .of fun F => ?_
    unfold st;simp only[bad_eq,ada,if_neg I7,ite_self];rfl
   ·exact ae.pos (by simpa[st] using he) (.ret _)
  | ok w =>
   obtain ⟨v',r⟩:=w;rw[hv] at h2;have h2:(v,x)=(qj 8 v',st s r (8-((8:Nat):Int)) 0):=h2
   injection h2 with h2 GZ
   subst h2; subst GZ;obtain ⟨_,o2,_,_⟩:=vX 8 s v' r hv;have hp:=ki s r o2 hs (8-((8:Nat):Int)) 0;refine ae.bind hp ?_;have qJ:skp r <:+ s:=(aw r).trans o2;by_cases hq:skp r=[]
   ·simp only
    rw[if_pos hq,hq];refine ae.bind (r:=(((),(),(),z9,st s [] (8-((8:Nat):Int)) 0,qj 8 v',()):Unit×Unit×Unit×V9×RS×V9×Unit)) ?_ ?_
    ·exact ae.neg (by simp[st]) (.ret _)
    ·exact ae.neg (by simp[st]) (.ret _)
   ·simp only
    rw[if_neg hq];have hl:=fw qJ;have uB:=List.length_pos_iff.2 hq;refine ae.bind (r:=(((),(),(),z9,st s (skp r) (8-((8:Nat):Int)) 3,qj 8 v',()):Unit×Unit×Unit×V9×RS×V9×Unit)) ?_ ?_
    ·refine ae.pos (by rw[ac9]; show ((s.length-(skp r).length:Nat):Int)<(s.length:Int); omega) (.of fun F => ?_)
     unfold st;simp only[bad_eq,ada,if_true];rfl
    ·exact ae.pos (by simp[st]) (.ret _)
end Go.Vm
namespace Go.Vm
open Go.Proofs
open Go.Lib (decodeL decDigits itoa)
def vP (s:By):JV:=match CT s with
 | .ok v=>v
 | .error _ => .nil
theorem Fh (s:By) (hs:s.length<=1000):ae (fun F=>iK F s) (vP s,(ofP s).2):=by
 refine ae.eq (Tv s hs) ?_;unfold vP ofP;cases CT s <;> rfl
theorem uX (s:By):(ofP s).1.1=pI (vP s)/\(ofP s).1.2.2.1=y8 (vP s)/\(ofP s).1.2.2.2.1=Bi (vP s)/\(ofP s).1.2.2.2.2.1=Cw (vP s)/\(ofP s).1.2.2.2.2.2.1=FV 8 (vP s):=by
 unfold ofP vP;cases CT s <;> exact ⟨rfl,rfl,rfl,rfl,rfl⟩
theorem VX (s:By) (hs:s.length<=1000):ae (fun F=>pJ F s) (y8 (vP s),decide (pI (vP s)=4)):=by
 unfold pJ;refine ae.bind (Fh s hs) ?_;cases vP s <;> exact .ret _
theorem Pz (s:By) (hs:s.length<=1000):ae (fun F=>mj F s) (Bi (vP s),decide (pI (vP s)=3)):=by
 unfold mj;refine ae.bind (Fh s hs) ?_;cases vP s <;> exact .ret _
def ly:JV->List Me
 | .obj l=>l
 | _ => []
theorem BV (v:JV):Cw v=(ly v).map (·.1):=by cases v <;> rfl
theorem Ij (s:By):vP s = .nil\/(okV 8 (vP s)/\(cg 8 (vP s)).length<=400):=by
 unfold vP;cases h:CT s with
 | error e=>exact .inl rfl
 | ok v =>
  obtain ⟨o1,o2,o3⟩:=V2 h;exact .inr ⟨o1,Nat.le_trans o2 o3⟩
theorem uL {v:JV} {l:List Me} (h:v = .nil\/(okV 8 v/\(cg 8 v).length<=400)) (hv:v = .obj l):Uni l/\l.length<=400 /\ ∀ m∈l,okV 7 m.2.1/\(cg 7 m.2.1).length<=400:=by
 subst hv;rcases h with h | ⟨h1,h2⟩
 ·cases h
 obtain ⟨h3,h4⟩:Ris l /\ ∀ m∈l,OkT m.1/\okV 7 m.2.1:=h1
 have e:cg 8 (.obj l)=123::(eF (l.map fun m=>quo m.1++58::cg 7 m.2.1)++[125]):=rfl;rw[e] at h2;simp only[adb,adf,List.length_nil] at h2;have hj:=BN (fun m:Me=>quo m.1++58::cg 7 m.2.1) l (fun m _=>by unfold quo; simp);refine ⟨TG h3,by omega,fun m hm=>⟨(h4 m hm).2,?_⟩⟩;have:=piece (fun m:Me=>quo m.1++58::cg 7 m.2.1) l m hm;simp only[adf,adb] at this;omega
where
 piece {α:Type} (f:α->By):∀ (l:List α) (x:α),x∈l->(f x).length<=(eF (l.map f)).length
  | [],x,h=>by cases h
  | [y],x,h=>by
   rw[List.mem_singleton] at h;subst h;exact Nat.le_refl _
  | y::z::l,x,h=>by
   have ih:=piece f (z::l);rw[List.map_cons] at ih;simp only[List.map_cons,eF,adf,adb] at ih ⊢
   rcases List.mem_cons.1 h with rfl | h
   ·omega
   ·have:=ih x h
    omega
def firstM (name:By):List Me->By×Bool
 | []=>([],false)
 | m::l=>if m.1=name then (cg 7 m.2.1,true) else firstM name l
theorem Cx (name:By):∀ l:List Me,match l.findIdx? (fun m=>m.1 == name) with
  | some i => ∃ m,l[i]? = some m/\firstM name l=(cg 7 m.2.1,true)
  | none=>firstM name l=([],false)
 | []=>rfl
 | m::l=>by
  have ih:=Cx name l;rw[List.findIdx?_cons];by_cases hc:m.1=name
  ·rw[if_pos (beq_iff_eq.2 hc)]
   exact ⟨m,rfl,by unfold firstM; rw[if_pos hc]⟩
  ·rw[if_neg (by simpa using hc)]
   cases hf:l.findIdx? (fun m=>m.1 == name) with
   | none =>
    rw[hf] at ih;simp only[Option.map_none];unfold firstM;rw[if_neg hc];exact ih
   | some i =>
    rw[hf] at ih;obtain ⟨m',h1,h2⟩:=ih;simp only[Option.map_some];refine ⟨m',by simpa using h1,?_⟩;unfold firstM;rw[if_neg hc];exact h2
theorem LH (s name:By) (hs:s.length<=1000):ae (fun F=>lB F (s,name)) (firstM name (ly (vP s))):=by
 have hv:=Ij s;unfold lB;refine ae.bind (Fh s hs) ?_;have none:ae (fun F=>(cY F ([],name)).bind fun v5=>if decide (v5<0)=true then some ([],false) else (idx ([]:List Me) v5).bind fun v6=>(oE F ([],v6.2.1)).bind fun v7=>some (v7,true)) (([],false):By×Bool):=by
  refine ae.bind (Kh [] name (by simp)) ?_;exact ae.pos rfl (.ret _)
 cases hc:vP s with
 | obj l =>
  obtain ⟨h1,h2,h3⟩:=uL hv hc;refine ae.pos rfl ?_;refine ae.bind (.of fun F=>(rfl:(JV.obj l).N9=some l)) ?_;refine ae.bind (Kh l name (by omega)) ?_;have WQ:=Cx name l;unfold HE;cases hf:l.findIdx? (fun m=>m.1 == name) with
  | none =>
   rw[hf] at WQ;refine ae.pos (by decide) ?_;show ae _ (firstM name l);rw[WQ];exact .ret _
  | some i =>
   rw[hf] at WQ;obtain ⟨m,q1,q2⟩:=WQ;refine ae.neg (by show ¬ decide ((i:Int)<0)=true; rw[ac9]; omega) ?_;refine ae.bind (.of fun F=>bU l i m q1) ?_;obtain ⟨o1,o2⟩:=h3 m (List.mem_of_getElem? q1);show ae _ (firstM name l);rw[q2];exact ae.bind (Xl 7 m.2.1 [] o1 (by simp; omega)) (.ret _)
 | _=>exact ae.neg adj none
end Go.Vm
