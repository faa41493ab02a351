import Derived.Test.YtihpjgcbmipdbaaGreatDoorPj12
set_option linter.unusedVariables false
set_option linter.unusedSimpArgs false
namespace Go.Vm
open Go.Lib (decodeL decodeN decodeL_N decode_N decodeN_shape decodeL_le decDigits itoa)
noncomputable def e9T (F:Nat) (t:Bool×By×Int×RS):Option (By×RS):=(if t.1=true then (ck F (t.2.1,8)).bind fun v20=>(if decide (56320<=v20)=true then some ((),t.2.2.1,v20,decide (v20<=57343),(t.2.2.2.1,t.2.2.2.2.1,t.2.2.2.2.2.1,t.2.2.2.2.2.2.1,()),()) else some ((),t.2.2.1,v20,false,(t.2.2.2.1,t.2.2.2.2.1,t.2.2.2.2.2.1,t.2.2.2.2.2.2.1,()),()):Option (Unit×Int×Int×Bool×RS×Unit)).bind fun v21=>if v21.2.2.2.1=true then (aQ F (IntKind.i64.wrap (IntKind.i64.wrap (IntKind.i64.wrap (65536+IntKind.i64.wrap (IntKind.i64.wrap (v21.2.1-55296)*1024))+v21.2.2.1)-56320))).bind fun v22=>some (Sum.inr ((),v22,(v21.2.2.2.2.1.1,IntKind.i64.wrap (v21.2.2.2.2.1.2.1+12),v21.2.2.2.2.1.2.2.1,v21.2.2.2.2.1.2.2.2.1,()),())) else some (Sum.inl ((),(v21.2.2.2.2.1.1,v21.2.2.2.2.1.2.1,v21.2.2.2.2.1.2.2.1,v21.2.2.2.2.1.2.2.2.1,()),())) else some (Sum.inl ((),(t.2.2.2.1,t.2.2.2.2.1,t.2.2.2.2.2.1,t.2.2.2.2.2.2.1,()),())):Option ((Unit×RS×Unit) ⊕ (Unit×By×RS×Unit))).bind fun v23=>dq v23 (fun v24=>(ao F ((v24.2.1.1,v24.2.1.2.1,v24.2.1.2.2.1,v24.2.1.2.2.2.1,()),3)).bind fun v25=>some ([],v25.2.1,v25.2.2.1,v25.2.2.2.1,v25.2.2.2.2.1,())) fun v26=>some (v26.2.1,v26.2.2.1.1,v26.2.2.1.2.1,v26.2.2.1.2.2.1,v26.2.2.1.2.2.2.1,())
noncomputable def e9C (rest:By) (n:Int) (rs:RS) (b:Bool):Option (Bool×By×Int×RS) :=
 (if b=true then some ((),rest,n,decide (8<=(rest.length:Int)),(rs.1,rs.2.1,rs.2.2.1,rs.2.2.2.1,()),()) else some ((),rest,n,false,(rs.1,rs.2.1,rs.2.2.1,rs.2.2.2.1,()),()):Option (Unit×By×Int×Bool×RS×Unit)).bind fun v15 =>
   (if v15.2.2.2.1=true then (idx v15.2.1 6).bind fun v16=>some ((),v15.2.1,v15.2.2.1,decide ((v16.toNat:Int)=92),(v15.2.2.2.2.1.1,v15.2.2.2.2.1.2.1,v15.2.2.2.2.1.2.2.1,v15.2.2.2.2.1.2.2.2.1,()),())
    else some ((),v15.2.1,v15.2.2.1,false,(v15.2.2.2.2.1.1,v15.2.2.2.2.1.2.1,v15.2.2.2.2.1.2.2.1,v15.2.2.2.2.1.2.2.2.1,()),()):Option (Unit×By×Int×Bool×RS×Unit)).bind fun v17 =>
   (if v17.2.2.2.1=true then (idx v17.2.1 7).bind fun v18=>some ((),v17.2.1,v17.2.2.1,decide ((v18.toNat:Int)=117),(v17.2.2.2.2.1.1,v17.2.2.2.2.1.2.1,v17.2.2.2.2.1.2.2.1,v17.2.2.2.2.1.2.2.2.1,()),())
    else some ((),v17.2.1,v17.2.2.1,false,(v17.2.2.2.2.1.1,v17.2.2.2.2.1.2.1,v17.2.2.2.2.1.2.2.1,v17.2.2.2.2.1.2.2.2.1,()),()):Option (Unit×By×Int×Bool×RS×Unit)).bind fun v19 =>
   some (v19.2.2.2.1,v19.2.1,v19.2.2.1,v19.2.2.2.2.1)
noncomputable def e9B (F:Nat) (n:Int) (rs:RS):Option (By×RS):=(aQ F n).bind fun v13=>some (v13,rs.1,IntKind.i64.wrap (rs.2.1+6),rs.2.2.1,rs.2.2.2.1,())
theorem QJ (F:Nat) (rest:By) (rs:RS) (n:Int):e9K F rest rs n=if 0<=n/\(n<55296\/57343<n) then e9B F n rs else (e9C rest n rs (decide (55296<=n/\n<56320))).bind (e9T F):=by
 refine Eq.trans ?_ (Wd 55296 57343 56320 0 rest rs n (fun _=>True) (e9B F) (fun a b c d=>(e9C a b c d).bind (e9T F)));unfold e9K e9C;simp only[Option.bind_assoc,ada];rfl
theorem Ap {s r:By} (h:r <:+ s) (hs:s.length<=1000) (m:Nat) (hm:m<=r.length):IntKind.i64.wrap (((s.length-r.length:Nat):Int)+(m:Int))=((s.length-(r.drop m).length:Nat):Int):=by
 have:=fw h;rw[wrap64 _ (by omega) (by omega),List.length_drop];omega
def V3 (s q:By) (k:Int):By×RS:=match sD q with
 | some (c,m)=>(bR c,st s ((92::q).drop m) k 0)
 | none=>([],st s (92::q) k 3)
theorem Sm (s q:By) (x y:UInt8) (hq:x::y::q <:+ s) (hs:s.length<=1000) (k:Int) (n:Nat) (hn:n<65536) (c1:¬ n<55296) (c3:¬ 56320<=n) (h4:4<=q.length) :
  ae (fun F=>e9T F (decide ((q.drop 4).take 2=[92,117]),x::y::q,(n:Int),st s (x::y::q) k 0)) (match yG n (q.drop 4) with
   | some (c,m)=>(bR c,st s ((x::y::q).drop m) k 0)
   | none=>([],st s (x::y::q) k 3)):=by
 unfold e9T;by_cases hp:(q.drop 4).take 2=[92,117]
 ·obtain ⟨q',hq'⟩:=Uh hp
  have OI:(x::y::q).drop 8=q':=by
   rw[show (x::y::q).drop 8=(q.drop 4).drop 2 by simp,hq']; rfl
  have Ld:=O2 (x::y::q) 8 (by decide);rw[OI] at Ld;rw[adg hp];rw[hq'];unfold yG;simp only;unfold AH at Ld;cases hm:qy q' with
  | none =>
   rw[hm] at Ld;rw[Option.bind_none];refine ae.bind (r := .inl ((),st s (x::y::q) k 0,())) ?_ ?_
   ·refine ae.pos trivial ?_
    refine ae.bind Ld ?_;exact .ret _
   ·exact .of fun F=>by unfold st; simp only[aA,bad_eq,ada,if_true]
  | some m =>
   rw[hm] at Ld;obtain ⟨m1,m2⟩:=uD hm;rw[ada];by_cases c5:56320<=m/\m<=57343
   ·rw[if_pos c5]
    have hpr:=VB n m c1 hn c5.1 c5.2;have zI:okR (xG n m):=by unfold okR xG; omega
    have hlen:12<=(x::y::q).length:=by
     have:=congrArg List.length hq';simp at this;simp; omega
    have yV:=Ap hq hs 12 hlen;refine ae.bind (r := .inr ((),bR (xG n m),st s ((x::y::q).drop 12) k 0,())) ?_ ?_
    ·refine ae.pos trivial ?_
     refine ae.bind Ld ?_;refine ae.congr (m:=fun F => _) ?_ fun F=>Lq 56320 57343 (n:Int) (m:Int) (st s (x::y::q) k 0) (fun a b rs=>(aQ F (IntKind.i64.wrap (IntKind.i64.wrap (IntKind.i64.wrap (65536+IntKind.i64.wrap (IntKind.i64.wrap (a-55296)*1024))+b)-56320))).bind fun v22=>some (Sum.inr ((),v22,(rs.1,IntKind.i64.wrap (rs.2.1+12),rs.2.2.1,rs.2.2.2.1,()),())))
     refine ae.pos (by omega) ?_;refine .of fun F => ?_
     rw[hpr,ub F _ zI,ada,k6 _ zI];have WW:IntKind.i64.wrap (((s.length-(x::y::q).length:Nat):Int)+12)=((s.length-((x::y::q).drop 12).length:Nat):Int):=yV;unfold st;simp only[WW]
    ·exact .of fun F=>by rw[bd]
   ·rw[if_neg c5]
    refine ae.bind (r := .inl ((),st s (x::y::q) k 0,())) ?_ ?_
    ·refine ae.pos trivial ?_
     refine ae.bind Ld ?_;refine ae.congr (m:=fun F => _) ?_ fun F=>Lq 56320 57343 (n:Int) (m:Int) (st s (x::y::q) k 0) (fun a b rs=>(aQ F (IntKind.i64.wrap (IntKind.i64.wrap (IntKind.i64.wrap (65536+IntKind.i64.wrap (IntKind.i64.wrap (a-55296)*1024))+b)-56320))).bind fun v22=>some (Sum.inr ((),v22,(rs.1,IntKind.i64.wrap (rs.2.1+12),rs.2.2.1,rs.2.2.2.1,()),())))
     exact ae.neg (by omega) (.ret _)
    ·exact .of fun F=>by unfold st; simp only[aA,bad_eq,ada,if_true]
 ·rw[adh hp,Eg hp]
  refine ae.bind (r := .inl ((),st s (x::y::q) k 0,())) (ae.neg adj (.ret _)) ?_;exact .of fun F=>by unfold st; simp only[aA,bad_eq,ada,if_true]
theorem Xy (s q:By) (x y:UInt8) (hq:x::y::q <:+ s) (hs:s.length<=1000) (k:Int):ae (fun F=>e9K F (x::y::q) (st s (x::y::q) k 0) (AH q)) (match zY q with
  | some (c,m)=>(bR c,st s ((x::y::q).drop m) k 0)
  | none=>([],st s (x::y::q) k 3)):=by
 refine ae.congr (m:=fun F => _) ?_ fun F=>QJ F _ _ _
 unfold zY AH;cases hn:qy q with
 | none =>
  rw[Option.bind_none]
  dsimp only
  refine ae.neg (by simp) ?_;rw[adh (by omega)];refine ae.bind (.of fun F=>(show e9C (x::y::q) (-1) (st s (x::y::q) k 0) false=some (false,x::y::q,-1,st s (x::y::q) k 0) from rfl)) ?_;unfold e9T;refine ae.bind (r := .inl ((),st s (x::y::q) k 0,())) (ae.neg adj (.ret _)) ?_;exact .of fun F=>by unfold st; simp only[aA,bad_eq,ada,if_true]
 | some n =>
  obtain ⟨n1,n2⟩:=uD hn;rw[ada]
  dsimp only
  by_cases c1:n<55296\/57343<n
  ·rw[if_pos c1]
   have zI:okR n:=by unfold okR; omega
   have yV:=Ap hq hs 6 (by simp; omega);refine ae.pos (by omega) (.of fun F => ?_);unfold e9B;rw[ub F n zI,ada,k6 n zI];have WW:IntKind.i64.wrap (((s.length-(x::y::q).length:Nat):Int)+6)=((s.length-((x::y::q).drop 6).length:Nat):Int):=yV;unfold st;simp only[WW]
  rw[if_neg c1];refine ae.neg (by omega) ?_;by_cases c3:56320<=n
  ·rw[if_pos c3,adh (by omega)]
   refine ae.bind (.of fun F=>(show e9C (x::y::q) (n:Int) (st s (x::y::q) k 0) false=some (false,x::y::q,(n:Int),st s (x::y::q) k 0) from rfl)) ?_;unfold e9T;refine ae.bind (r := .inl ((),st s (x::y::q) k 0,())) (ae.neg adj (.ret _)) ?_;exact .of fun F=>by unfold st; simp only[aA,bad_eq,ada,if_true]
  ·rw[if_neg c3,adg (by omega)]
   refine ae.bind (Vl s [] q x y hq hs k n n1 (by omega) (by omega) n2) ?_;exact Sm s q x y hq hs k n n1 (by omega) c3 n2
theorem ME (s q:By) (hq:92::q <:+ s) (hs:s.length<=1000) (k:Int):ae (fun F=>cz F (st s (92::q) k 0)) (V3 s q k):=by
 refine ae.congr (m:=fun F => _) ?_ fun F=>Jj F _
 have hl:=fw hq;refine ae.bind (r:=(((),92::q,st s (92::q) k 0,()):Unit×By×RS×Unit)) ?_ ?_
 ·exact ae.bind (.of fun F=>Au hq) (.ret _)
 unfold V3;cases q with
 | nil =>
  refine ae.pos (by simp) (.of fun F => ?_);unfold st;simp only[bad_eq,ada,if_true];rfl
 | cons c r =>
  refine ae.neg (by simp; omega) ?_;have hi:idx ((92:UInt8)::c::r) 1=some c:=bU _ 1 _ rfl;have sn:=Q0 s (92::c::r) r c hi ((s.length-(92::c::r).length:Nat):Int) k 0 (by omega);have aat:=Ap hq hs 2 (by simp);rw[OZ];cases W4:JO c with
  | some x =>
   rw[W4] at sn;refine ae.bind sn.run ?_;refine .of fun F => ?_
   have OK:((s.length-(92::c::r).length:Nat):Int)+2=((s.length-((92::c::r).drop 2).length:Nat):Int):=by
    rw[<-aat,wrap64 _ (by simp only[adb] at hl ⊢; omega) (by simp only[adb] at hl ⊢; omega)]; rfl
   simp only[bd,Tj W4];unfold st;rw[OK]
  | none =>
   rw[W4] at sn;refine ae.bind sn.run ?_;simp only[aA];refine ae.bind (.of fun F=>hi) ?_;have hv:=nvB c 117;rw[show ((117:UInt8).toNat:Int)=117 from rfl] at hv;by_cases WX:c=117
   ·subst WX
    refine ae.bind (r:=(((),92::117::r,AH r,st s (92::117::r) k 0,()):Unit×By×Int×RS×Unit)) ?_ ?_
    ·refine ae.pos (by decide) ?_
     exact ae.bind (O2 (92::117::r) 2 (by decide)) (.ret _)
    ·rw[if_pos rfl]
     exact Xy s r 92 117 hq hs k
   ·refine ae.bind (r:=(((),92::c::r,-1,st s (92::c::r) k 0,()):Unit×By×Int×RS×Unit)) ?_ ?_
    ·exact ae.neg (by simp only[hv,ac9]; exact WX) (.ret _)
    ·rw[if_neg WX]
     refine ae.congr (m:=fun F => _) ?_ fun F=>QJ F _ _ _
     refine ae.neg (by simp) ?_
     dsimp only
     rw[adh (by omega)];refine ae.bind (.of fun F=>(show e9C (92::c::r) (-1) (st s (92::c::r) k 0) false=some (false,92::c::r,-1,st s (92::c::r) k 0) from rfl)) ?_;unfold e9T;refine ae.bind (r := .inl ((),st s (92::c::r) k 0,())) (ae.neg adj (.ret _)) ?_;exact .of fun F=>by unfold st; simp only[aA,bad_eq,ada,if_true]
abbrev T9:=Unit×RS×Unit ⊕ Unit×By×RS×Unit
abbrev TS9:=(Unit×By×RS×Unit) ⊕ T9
def T9R (s:By) (k:Int) (out q:By) (y:T9):Prop:=match txt q with
 | some (t,q')=>y = .inr ((),out++t,st s q' k 0,())
 | none => ∃ r,r <:+ s/\(y = .inl ((),st s r k 3,())\/y = .inr ((),[],st s r k 3,()))
theorem Nr (s r:By) (k:Int) (out:By):ag ay ((),out,st s r k 3,()) (.inl ((),st s r k 3,())):=by
 refine ag.fin (.of fun F => ?_);unfold ay st;rfl
theorem Ke (s:By) (hs:s.length<=1000) (k:Int):∀ (n:Nat) (q out:By),q <:+ s->q.length<=n->out.length<=4*(1000-q.length) -> ∃ y,ag ay ((),out,st s q k 0,()) y/\T9R s k out q y:=by
 intro n;induction n with
 | zero =>
  intro q out hq hn ho;have:q=[]:=List.length_eq_zero_iff.1 (by omega);subst this;refine ⟨.inr ((),[],st s [] k 3,()),ag.fin (.of fun F => ?_),?_⟩
  ·unfold ay st
   have:(s.length:Int)<=((s.length-([]:By).length:Nat):Int):=by simp
   simp only[decide_true,if_true,this,bad_eq,ada]
  ·unfold T9R; rw[xh]; exact ⟨[],hq,.inr rfl⟩
 | succ n ih =>
  intro q out hq hn ho;cases q with
  | nil =>
   refine ⟨.inr ((),[],st s [] k 3,()),ag.fin (.of fun F => ?_),?_⟩
   ·unfold ay st
    have:(s.length:Int)<=((s.length-([]:By).length:Nat):Int):=by simp
    simp only[decide_true,if_true,this,bad_eq,ada]
   ·unfold T9R; rw[xh]; exact ⟨[],hq,.inr rfl⟩
  | cons c q =>
   have hl:=fw hq;simp only[adb] at hl hn ho;have GR:=tI hq;have WY:¬ (s.length:Int)<=((s.length-(c::q).length:Nat):Int):=by omega
   have hi:=kp hq;have n34:=nvB c 34; have n92:=nvB c 92;rw[show ((34:UInt8).toNat:Int)=34 from rfl] at n34;rw[show ((92:UInt8).toNat:Int)=92 from rfl] at n92;by_cases c1:c=34
   ·subst c1
    refine ⟨.inr ((),out,st s q k 0,()),ag.fin (.of fun F => ?_),?_⟩
    ·unfold ay st
     simp only[decide_true,if_true,WY,decide_false,ade,if_false,hi,ada,n34,el hq hs]
    ·unfold T9R; rw[lv,if_pos rfl]; dsimp only; rw[List.append_nil]
   by_cases c2:c=92
   ·subst c2
    have CM:=ME s q hq hs k;unfold V3 at CM;have cO:∀ (e:By×RS),ae (fun F=>cz F (st s (92::q) k 0)) e->out.length+e.1.length<=100000->ae (fun F=>ay F ((),out,st s (92::q) k 0,())) (.inl ((),out++e.1,e.2,())):=by
     intro e he Mm;unfold ay;refine ae.pos rfl ?_;refine ae.neg (by simpa[st] using WY) ?_;refine ae.bind (r:=(((),out,false,st s (92::q) k 0,()):Unit×By×Bool×RS×Unit)) (ae.bind (.of fun F=>hi) (.ret _)) ?_;refine ae.neg adj ?_;refine ae.bind (r:=(((),out,true,st s (92::q) k 0,()):Unit×By×Bool×RS×Unit)) (ae.bind (.of fun F=>hi) (.ret _)) ?_;refine ae.pos rfl ?_;refine ae.bind he ?_;refine ae.pos (by simp only[ac9]; omega) (.ret _)
    cases he:sD q with
    | none =>
     rw[he] at CM;refine ⟨.inl ((),st s (92::q) k 3,()),ag.step (cO _ CM (by simp; omega)) (Nr s _ k _),?_⟩;unfold T9R;rw[lv,if_neg (by decide),if_pos rfl,he,Option.bind_none];exact ⟨_,hq,.inl rfl⟩
    | some w =>
     obtain ⟨c',m⟩:=w;rw[he] at CM;obtain ⟨q1,q2,q3,q4⟩:=FD he;have Mm:=qs c';have uC:(92::q).drop m <:+ s:=(List.drop_suffix _ _).trans hq;have Dr:((92::q).drop m).length=q.length+1-m:=by simp
     obtain ⟨y,i1,i2⟩:=ih ((92::q).drop m) (out++bR c') uC (by rw[Dr]; omega) (by rw[adf,Dr]; omega);refine ⟨y,ag.step (cO _ CM (by simp only; omega)) i1,?_⟩;unfold T9R at i2 ⊢
     rw[lv,if_neg (by decide),if_pos rfl,he,ada];cases ht:txt ((92::q).drop m) with
     | none=>rw[ht] at i2; exact i2
     | some w =>
      rw[ht] at i2;simp only[Option.map_some];rw[<-List.append_assoc];exact i2
   ·-- a sign
    have uB:=bH (c::q);have hle:=decodeL_le (c::q) (by simp);have WZ:=fun F=>Hm F (c::q) (by simp)
    have I9:=jK (c::q) (by simp);have YO:=Au hq;have hsm:=Ag hq (decodeL (c::q)).2 hle;have yV:=Ap hq hs (decodeL (c::q)).2 hle;have zI:=pG (c::q);rw[adb] at hle;have Dr:((c::q).drop (decodeL (c::q)).2).length=q.length+1-(decodeL (c::q)).2:=by simp
    have uC:(c::q).drop (decodeL (c::q)).2 <:+ s:=(List.drop_suffix _ _).trans hq;have TN:((c::q).take (decodeL (c::q)).2).length=(decodeL (c::q)).2:=by simp; omega
    generalize hD1:(decodeL (c::q)).1=D1 at *
    generalize hD2:(decodeL (c::q)).2=D2 at *
    generalize YE:(65533:Nat)=FF at *
    have RF:(65533:Int)=(FF:Int):=by rw[<-YE]; rfl
    have hwE:IntKind.i64.wrap (((s.length-(c::q).length:Nat):Int)+(D2:Int))=((s.length-((c::q).length-D2):Nat):Int):=by rw[yV]; congr 2
    -- what the tests tell
    have flag:∀ F:Nat,(if decide ((D1:Int)<32)=false then if decide ((D1:Int)=65533)=true then some ((),out,(D2:Int),decide ((D2:Int)=1),st s (c::q) k 0,()) else some ((),out,(D2:Int),false,st s (c::q) k 0,()) else some ((),out,(D2:Int),true,st s (c::q) k 0,()):Option (Unit×By×Int×Bool×RS×Unit))=some ((),out,(D2:Int),decide (D1<32\/(D1=FF/\D2=1)),st s (c::q) k 0,()):=by
     intro F;rw[RF];by_cases b1:D1<32
     ·have b1':(D1:Int)<32:=by omega
      rw[adg b1',if_neg (by decide),adg (.inl b1)]
     ·have b1':¬ (D1:Int)<32:=by omega
      rw[adh b1',if_pos rfl];by_cases b2:D1=FF
      ·have b2':(D1:Int)=(FF:Int):=by rw[b2]
       rw[adg b2',if_pos rfl];by_cases b3:D2=1
       ·have b3':(D2:Int)=1:=by omega
        rw[adg b3',adg (.inr ⟨b2,b3⟩)]
       ·have b3':¬ (D2:Int)=1:=by omega
        rw[adh b3',adh (fun hh=>hh.elim b1 (fun h=>b3 h.2))]
      ·have b2':¬ (D1:Int)=(FF:Int):=by omega
       rw[adh b2',if_neg (by decide),adh (fun hh=>hh.elim b1 (fun h=>b2 h.1))]
    have ahead:∀ (z:TS9) ,ae (fun F=>(some ((),out,(D2:Int),decide (D1<32\/(D1=FF/\D2=1)),st s (c::q) k 0,()):Option (Unit×By×Int×Bool×RS×Unit)).bind fun v10 =>
       if v10.2.2.2.1=true then
        (ao F ((v10.2.2.2.2.1.1,v10.2.2.2.2.1.2.1,v10.2.2.2.2.1.2.2.1,v10.2.2.2.2.1.2.2.2.1,()),3)).bind fun v11=>some (Sum.inr (Sum.inr ((),[],(v11.2.1,v11.2.2.1,v11.2.2.2.1,v11.2.2.2.2.1,()),())))
       else
        ((sub v10.2.2.2.2.1.1 v10.2.2.2.2.1.2.1 (IntKind.i64.wrap (v10.2.2.2.2.1.2.1+v10.2.2.1))).bind fun v12 =>
          if decide (v10.2.1.length+v12.length<=9223372036854775807)=true then
           some ((),v10.2.1++v12,v10.2.2.1,(v10.2.2.2.2.1.1,v10.2.2.2.2.1.2.1,v10.2.2.2.2.1.2.2.1,v10.2.2.2.2.1.2.2.2.1,()),())
          else none:Option (Unit×By×Int×RS×Unit)).bind fun v13 =>
        some (Sum.inl ((),v13.2.1,(v13.2.2.2.1.1,IntKind.i64.wrap (v13.2.2.2.1.2.1+v13.2.2.1),v13.2.2.2.1.2.2.1,v13.2.2.2.1.2.2.2.1,()),()))) z->ae (fun F=>ay F ((),out,st s (c::q) k 0,())) z:=by
     intro z hz;unfold ay;refine ae.pos rfl ?_;refine ae.neg (by simpa[st] using WY) ?_;refine ae.bind (r:=(((),out,false,st s (c::q) k 0,()):Unit×By×Bool×RS×Unit)) (ae.bind (.of fun F=>hi) (.of fun F=>by simp only[n34,adh c1])) ?_;refine ae.neg adj ?_;refine ae.bind (r:=(((),out,false,st s (c::q) k 0,()):Unit×By×Bool×RS×Unit)) (ae.bind (.of fun F=>hi) (.of fun F=>by simp only[n92,adh c2])) ?_;refine ae.neg adj ?_;refine ae.bind (r:=(((),out,(D1:Int),(D2:Int),st s (c::q) k 0,()):Unit×By×Int×Int×RS×Unit)) (ae.bind (.of fun F=>YO) (ae.bind (.of WZ) (.ret _))) ?_;refine ae.bind (.of flag) ?_;exact hz
    by_cases La:D1<32\/(D1=FF/\D2=1)
    ·refine ⟨.inr ((),[],st s (c::q) k 3,()),ag.fin (ahead _ (.of fun F => ?_)),?_⟩
     ·rw[adg La,ada]
      unfold st;simp only[if_true,bad_eq,ada]
     ·unfold T9R
      rw[lv,if_neg c1,if_neg c2,hD1,hD2,YE,if_pos La];exact ⟨_,hq,.inr rfl⟩
    ·have ht:=I9 (fun hh=>La (.inr hh))
     obtain ⟨y,i1,i2⟩:=ih ((c::q).drop D2) (out++(c::q).take D2) uC (by rw[Dr]; omega) (by rw[adf,Dr,TN]; omega);refine ⟨y,ag.step (ahead _ (.of fun F => ?_)) i1,?_⟩
     ·rw[adh La,ada]
      have YP:sub s ((s.length-(c::q).length:Nat):Int) (IntKind.i64.wrap (((s.length-(c::q).length:Nat):Int)+(D2:Int)))=some ((c::q).take D2):=by rw[hwE]; exact hsm
      unfold st;rw[yV] at YP;simp only[ade,if_false,yV,YP,ada];rw[if_pos (by rw[ac9,TN]; omega)];simp only[ada,yV]
     ·unfold T9R at i2 ⊢
      rw[lv,if_neg c1,if_neg c2,hD1,hD2,YE,if_neg La];cases hx:txt ((c::q).drop D2) with
      | none=>rw[hx] at i2; exact i2
      | some w =>
       rw[hx] at i2;simp only[Option.map_some];rw[<-List.append_assoc];exact i2
theorem LS (s r:By) (h:34::r <:+ s) (hs:s.length<=1000) (k:Int):∃ y,ae (fun F=>aM F (st s (34::r) k 0)) y/\(match txt r with
  | some (t,q)=>y=(t,st s q k 0)
  | none => ∃ r',r' <:+ s/\y=([],st s r' k 3)):=by
 have hr:=cQ h;obtain ⟨y,h1,h2⟩:=Ke s hs k r.length r [] hr (Nat.le_refl _) (by simp);have e0:((),([]:By),(s,IntKind.i64.wrap (((s.length-(34::r).length:Nat):Int)+1),k,(0:Int),()),())=(((),[],st s r k 0,()):Unit×By×RS×Unit):=by rw[el h hs]; rfl
 have run:∀ z,ae (fun F=>dq y (fun v15=>some (([]:By),v15.2.1.1,v15.2.1.2.1,v15.2.1.2.2.1,v15.2.1.2.2.2.1,())) fun v16=>some (v16.2.1,v16.2.2.1.1,v16.2.2.1.2.1,v16.2.2.1.2.2.1,v16.2.2.1.2.2.2.1,())) z->ae (fun F=>aM F (st s (34::r) k 0)) z:=by
  intro z hz;unfold aM;unfold st;simp only;rw[e0];exact h1.run.bind hz
 unfold T9R at h2;cases ht:txt r with
 | none =>
  rw[ht] at h2;obtain ⟨r',h3,rfl | rfl⟩:=h2
  ·exact ⟨_,run _ (.ret _),r',h3,rfl⟩
  ·exact ⟨_,run _ (.ret _),r',h3,rfl⟩
 | some w =>
  obtain ⟨t,q⟩:=w;rw[ht] at h2;subst h2;exact ⟨_,run _ (.ret _),by rw[List.nil_append]⟩
end Go.Vm
namespace Go.Vm
open Go.Lib (decodeL decodeN decodeL_N decode_N decodeN_shape decodeL_le decDigits itoa)
theorem IF (F:Nat) (x:Nat) (hx:x<10):dp F (x:Int)=some [UInt8.ofNat (48+x)]:=by
 unfold dp;rw[wrap64 _ (by omega) (by omega),wrapB8 _ (by omega) (by omega)];congr 3
where
 wrapB8 (n:Int) (h:0<=n) (h':n<=255):IntKind.u8.wrap n=n:=by
  simp only[IntKind.wrap,IntKind.bits,IntKind.signed];simp;omega
theorem Um (u k:Nat):(u:Int).tmod (k:Int)=((u % k:Nat):Int):=by rw[Int.ofNat_tmod]
theorem Ur (u k:Nat):(u:Int).tdiv (k:Int)=((u / k:Nat):Int):=by rw[Int.ofNat_tdiv]
def KH (u:Nat):By:=if u=0 then [] else decDigits u
theorem Eh {u:Nat} (h:u≠0):KH u=KH (u / 10)++[UInt8.ofNat (48+u % 10)]:=by
 unfold KH;rw[if_neg h,decDigits];split
 ·rename_i T2
  rw[if_pos (by omega),Nat.mod_eq_of_lt T2]; rfl
 ·rename_i T2
  rw[if_neg (by omega)]
theorem XQ (u:Nat):decDigits u=KH (u / 10)++[UInt8.ofNat (48+u % 10)]:=by
 by_cases h:u=0
 ·subst h; rw[Go.Lib.decDigits_one (by decide)]; rfl
 ·rw[<-Eh h]; unfold KH; rw[if_neg h]
theorem OY (R:Nat->Int->Option By):∀ (n u:Nat) (out:By),u<=n->u<1000000000000000000->u+out.length<=1000000000000000100->ag (fun F=>fR F (R F)) ((u:Int),out,()) (KH u++out,()):=by
 intro n;induction n with
 | zero =>
  intro u out hu h1 h2;have:u=0:=by omega
  subst this;exact ag.fin (.of fun F=>rfl)
 | succ n ih =>
  intro u out hu h1 h2;by_cases h0:u=0
  ·subst h0
   exact ag.fin (.of fun F=>rfl)
  ·have hp:(0:Int)<(u:Int):=by omega
   refine ag.step (.of fun F => ?_) (y:=(KH u++out,())) ?_ (x':=(((u / 10:Nat):Int),UInt8.ofNat (48+u % 10)::out,()))
   ·unfold fR
    have e1:(u:Int).tmod 10=((u % 10:Nat):Int):=Um u 10;have e2:(u:Int).tdiv 10=((u / 10:Nat):Int):=Ur u 10;simp only[hp,decide_true,if_true,e1,e2,IF F (u % 10) (by omega),ada];rw[if_pos (by rw[ac9]; simp; omega),wrap64 _ (by omega) (by omega)];rfl
   ·have:=ih (u / 10) (UInt8.ofNat (48+u % 10)::out) (by omega) (by omega) (by simp; omega)
    rw[Eh h0,List.append_assoc];exact this
theorem LV (R:Nat->Int->Option By) (u:Nat) (h1:u<1000000000000000000):ae (fun F=>cn F (R F) (u:Int)) (decDigits u):=by
 unfold cn;refine ae.neg (by simp) ?_;have e1:(u:Int).tmod 10=((u % 10:Nat):Int):=Um u 10;have e2:(u:Int).tdiv 10=((u / 10:Nat):Int):=Ur u 10;rw[e1,e2,wrap64 _ (by omega) (by omega)];refine ae.bind (.of fun F=>IF F (u % 10) (by omega)) ?_;refine ae.bind (OY R (u / 10) (u / 10) [UInt8.ofNat (48+u % 10)] (Nat.le_refl _) (by omega) (by simp; omega)).run ?_;rw[XQ];exact .ret _
theorem D6 (n:Int) (hn:okN n):ae (fun F=>cD F n) (itoa n):=by
 obtain ⟨h1,h2⟩:=hn;unfold itoa;by_cases OA:n<0
 ·rw[if_pos OA]
  have hp:=LV (fun F=>aG F (F-2)) n.natAbs (by omega);have hb:ae (fun F=>cn F (aG F (F-1)) n) (45::decDigits n.natAbs):=by
   unfold cn;refine ae.pos (by simpa using OA) ?_;rw[wrap64 _ (by omega) (by omega)];have e:0-n=(n.natAbs:Int):=by omega
   rw[e];refine ae.bind (r:=decDigits n.natAbs) (hp.evt 2 fun F hF => ?_) ?_
   ·rw[show F-1=(F-2)+1 by omega]; rfl
   ·refine ae.pos ?_ (.ret _)
    rw[ac9];have:=(itoa_lenA n.natAbs (by omega))
    simp only[adb,List.length_nil];omega
  exact hb.evt 1 fun F hF=>by
   unfold cD;rw[show aG F F n=aG F ((F-1)+1) n by rw[show F-1+1=F by omega]];rfl
 ·rw[if_neg OA]
  have hp:=LV (fun F=>aG F (F-1)) n.toNat (by omega);rw[show ((n.toNat:Nat):Int)=n by omega] at hp;exact hp.evt 1 fun F hF=>by
   unfold cD;rw[show aG F F n=aG F ((F-1)+1) n by rw[show F-1+1=F by omega]];rfl
where
 itoa_lenA (u:Nat) (h:u<1000000000000000):(decDigits u).length<=15:=by
  rw[Go.Lib.decDigits_length]; exact wb 15 u (by decide) (by rw[p15]; exact h)
abbrev V9:=Int×By×By×Int×List By×List By×Unit
def z9:V9:=(0,[],[],0,[],[],())
abbrev NS:=Unit×Unit×Int×Int×Int×RS×V9×Unit
def nS (sg:Int) (n c:Nat) (x:RS):NS:=((),(),sg,(n:Int),(c:Int),x,z9,())
theorem Dy (F:Nat) (s:By) (k sg:Int) (n c:Nat) (d:UInt8) (q:By) (hq:d::q <:+ s) (hs:s.length<=1000) (hd:bN d=true) (hc:c<15) (hn:c=0\/0<n) (hN:n<10000000000000000) :
  aN F (nS sg n c (st s (d::q) k 0))=some (.inl (nS sg (n*10+(d.toNat-48)) (c+1) (st s q k 0))):=by
 simp[bN] at hd;have d1:(48:Int)<=(d.toNat:Int):=by omega
 have d2:(d.toNat:Int)<=57:=by omega
 have e1:=tI hq;have e2:=kp hq;have e3:=el hq hs;have c1:(c:Int)<15:=by omega
 have w1:IntKind.i64.wrap (d.toNat:Int)=(d.toNat:Int):=wrap64 _ (by omega) (by omega);have w2:IntKind.i64.wrap ((n:Int)*10)=(n:Int)*10:=wrap64 _ (by omega) (by omega);have w3:IntKind.i64.wrap ((n:Int)*10+(d.toNat:Int))=(n:Int)*10+(d.toNat:Int):=wrap64 _ (by omega) (by omega);have w4:IntKind.i64.wrap ((n:Int)*10+(d.toNat:Int)-48)=((n*10+(d.toNat-48):Nat):Int):=by rw[wrap64 _ (by omega) (by omega)]; omega
 have w5:IntKind.i64.wrap ((c:Int)+1)=((c+1:Nat):Int):=by rw[wrap64 _ (by omega) (by omega)]; omega
 unfold aN nS st;by_cases ym:c=0
 ·have RM:(c:Int)=0:=by omega
  simp only[c1,decide_true,if_true,e1,e2,ada,d1,d2,w1,w2,w3,w4,w5,e3,adg RM,Bool.true_eq_false,if_false]
 ·have RM:¬ (c:Int)=0:=by omega
  have UN:(0:Int)<(n:Int):=by omega
  simp only[c1,decide_true,if_true,e1,e2,ada,d1,d2,w1,w2,w3,w4,w5,e3,adh RM,UN]
theorem lW (F:Nat) (s:By) (k sg:Int) (n c:Nat) (x:By) (hx:x <:+ s) (hs:s.length<=1000) (h:x=[]\/(∃ d q,x=d::q/\bN d=false)\/15<=c\/(c≠0/\n=0)) :
  aN F (nS sg n c (st s x k 0))=some (.inr (nS sg n c (st s x k 0))):=by
 unfold aN nS st;by_cases c1:c<15
 ·have c1':(c:Int)<15:=by omega
  cases x with
  | nil =>
   have:¬ ((s.length-([]:By).length:Nat):Int)<(s.length:Int):=KB;simp only[c1',decide_true,if_true,this,decide_false,ade,if_false,ada]
  | cons d q =>
   have e1:=tI hx;have e2:=kp hx;by_cases hd:bN d=true
   ·simp[bN] at hd
    have d1:(48:Int)<=(d.toNat:Int):=by omega
    have d2:(d.toNat:Int)<=57:=by omega
    have h2:c≠0/\n=0:=by
     rcases h with h | ⟨d',q',h,h'⟩ | h | h
     ·cases h
     ·injection h with h1 h2; subst h1; simp[bN] at h'; omega
     ·omega
     ·exact h
    have RM:¬ (c:Int)=0:=by omega
    have UN:¬ (0:Int)<(n:Int):=by omega
    simp only[c1',e1,decide_true,if_true,e2,ada,d1,d2,adh RM,UN,decide_false,ade,if_false]
   ·simp[bN] at hd
    by_cases d1:48<=d.toNat
    ·have d1':(48:Int)<=(d.toNat:Int):=by omega
     have d2:¬ (d.toNat:Int)<=57:=by have:=hd d1; omega
     simp only[c1',e1,decide_true,if_true,e2,ada,d1',d2,decide_false,ade,if_false]
    ·have d1':¬ (48:Int)<=(d.toNat:Int):=by omega
     simp only[c1',e1,decide_true,if_true,e2,ada,d1',decide_false,ade,if_false]
 ·have c1':¬ (c:Int)<15:=by omega
  simp only[c1',decide_false,ade,if_false,ada]
theorem N0 (s:By) (hs:s.length<=1000) (k sg:Int):∀ (m:Nat) (x:By) (n c:Nat),x <:+ s->x.length<=m->0<n->n<10 ^ c->c<=15 ->
  ag aN (nS sg n c (st s x k 0)) (nS sg (((x.takeWhile bN).take (15-c)).foldl (fun n d=>n*10+(d.toNat-48)) n) (c+((x.takeWhile bN).take (15-c)).length) (st s (x.drop ((x.takeWhile bN).take (15-c)).length) k 0)):=by
 intro m;induction m with
 | zero =>
  intro x n c hx hm hn hN hc;have:x=[]:=List.length_eq_zero_iff.1 (by omega);subst this;exact ag.fin (.of fun F=>(lW F s k sg n c [] hx hs (.inl rfl)).trans (by simp))
 | succ m ih =>
  intro x n c hx hm hn hN hc;cases x with
  | nil=>exact ag.fin (.of fun F=>(lW F s k sg n c [] hx hs (.inl rfl)).trans (by simp))
  | cons d q =>
   simp only[adb] at hm;by_cases hd:bN d=true
   ·by_cases Y3:c<15
    ·have YQ:n<10000000000000000:=by
      have:10 ^ c<=10 ^ 15:=Nat.pow_le_pow_right (by decide) hc;rw[p15] at this;omega
     have Ox:=hd;simp[bN] at Ox;have i2:=ih q (n*10+(d.toNat-48)) (c+1) (cQ hx) (by omega) (by omega) (by rw[Nat.pow_succ]; omega) (by omega);refine ag.step (.of fun F=>Dy F s k sg n c d q hx hs hd Y3 (.inr hn) YQ) ?_;have e1:15-c=(15-(c+1))+1:=by omega
     rw[List.takeWhile_cons_of_pos hd,e1,List.take_succ_cons,adb,List.drop_succ_cons,List.foldl_cons];rw[show c+((List.take (15-(c+1)) (List.takeWhile bN q)).length+1)=c+1+(List.take (15-(c+1)) (List.takeWhile bN q)).length by omega];exact i2
    ·have:15-c=0:=by omega
     rw[this,List.take_zero,List.length_nil,List.drop_zero];exact ag.fin (.of fun F=>lW F s k sg n c _ hx hs (.inr (.inr (.inl (by omega)))))
   ·have Ox:bN d=false:=by simpa using hd
    rw[List.takeWhile_cons_of_neg hd,List.take_nil,List.length_nil,List.drop_zero];exact ag.fin (.of fun F=>lW F s k sg n c _ hx hs (.inr (.inl ⟨d,q,rfl,Ox⟩)))
theorem MZ (s:By) (hs:s.length<=1000) (k sg:Int) (x:By) (hx:x <:+ s) :
  ag aN (nS sg 0 0 (st s x k 0)) (nS sg (sY (ed x)) (ed x).length (st s (x.drop (ed x).length) k 0)):=by
 cases x with
 | nil=>exact ag.fin (.of fun F=>lW F s k sg 0 0 [] hx hs (.inl rfl))
 | cons d q =>
  by_cases hd:bN d=true
  ·have Ox:=hd
   simp[bN] at Ox;have s1:=fun F=>Dy F s k sg 0 0 d q hx hs hd (by omega) (.inl rfl) (by omega)
   by_cases hc:d=48
   ·subst hc
    refine ag.step (.of s1) (ag.fin (.of fun F => ?_));exact lW F s k sg 0 1 q (cQ hx) hs (.inr (.inr (.inr ⟨by decide,rfl⟩)))
   ·have iv:d.toNat≠48:=fun hh=>hc (UInt8.toNat_inj.1 hh)
    have:=N0 s hs k sg q.length q (0*10+(d.toNat-48)) (0+1) (cQ hx) (Nat.le_refl _) (by omega) (by omega) (by omega);have Y0:ed (d::q)=d::(q.takeWhile bN).take 14:=by
     unfold ed;simp only;rw[if_neg hc,List.takeWhile_cons_of_pos hd];rfl
    rw[Y0];refine ag.step (.of s1) ?_;rw[adb,List.drop_succ_cons];unfold sY;rw[List.foldl_cons];rw[Nat.add_comm (0+1) _] at this;exact this
  ·have Ox:bN d=false:=by simpa using hd
   have hc:d≠48:=by rintro rfl; exact hd (by decide)
   unfold ed;simp only;rw[if_neg hc,List.takeWhile_cons_of_neg hd];exact ag.fin (.of fun F=>lW F s k sg 0 0 _ hx hs (.inr (.inl ⟨d,q,rfl,Ox⟩)))
noncomputable def Ee (F:Nat) (v8:NS):Option (V9×RS):=(if decide (v8.2.2.2.2.1=0)=true then (ao F ((v8.2.2.2.2.2.1.1,v8.2.2.2.2.2.1.2.1,v8.2.2.2.2.2.1.2.2.1,v8.2.2.2.2.2.1.2.2.2.1,()),3)).bind fun v9=>some ((),(),v8.2.2.1,v8.2.2.2.1,(v9.2.1,v9.2.2.1,v9.2.2.2.1,v9.2.2.2.2.1,()),v8.2.2.2.2.2.2.1,()) else some ((),(),v8.2.2.1,v8.2.2.2.1,(v8.2.2.2.2.2.1.1,v8.2.2.2.2.2.1.2.1,v8.2.2.2.2.2.1.2.2.1,v8.2.2.2.2.2.1.2.2.2.1,()),v8.2.2.2.2.2.2.1,()):Option (Unit×Unit×Int×Int×RS×V9×Unit)).bind fun v10=>(cD F (IntKind.i64.wrap (v10.2.2.1*v10.2.2.2.1))).bind fun v11=>some ((3,v11,[],IntKind.i64.wrap (v10.2.2.1*v10.2.2.2.1),[],[],()),v10.2.2.2.2.1.1,v10.2.2.2.2.1.2.1,v10.2.2.2.2.1.2.2.1,v10.2.2.2.2.1.2.2.2.1,())
theorem Sr (F:Nat) (x:RS):bp F x=(al F ((x.1,x.2.1,x.2.2.1,x.2.2.2.1,()),45)).bind fun v0 =>
  (if v0.1=true then some ((),(),-1,(v0.2.1,IntKind.i64.wrap (v0.2.2.1+1),v0.2.2.2.1,v0.2.2.2.2.1,()),z9,()) else some ((),(),1,(v0.2.1,v0.2.2.1,v0.2.2.2.1,v0.2.2.2.2.1,()),z9,()):Option (Unit×Unit×Int×RS×V9×Unit)).bind fun v1 =>
   (bf (aN F) F ((),(),v1.2.2.1,0,0,(v1.2.2.2.1.1,v1.2.2.2.1.2.1,v1.2.2.2.1.2.2.1,v1.2.2.2.1.2.2.2.1,()),v1.2.2.2.2.1,())).bind (Ee F):=rfl
theorem EP (s:By) (sg:Int) (Xh:sg=1\/sg = -1) (n c:Nat) (hn:n<1000000000000000) (q:By) (k:Int) (hc:c≠0):ae (fun F=>Ee F (nS sg n c (st s q k 0))) ((3,itoa (sg*n),[],sg*n,[],[],()),st s q k 0):=by
 have yh:¬ (c:Int)=0:=by omega
 have hw:IntKind.i64.wrap (sg*(n:Int))=sg*(n:Int):=by rcases Xh with rfl | rfl <;> exact wrap64 _ (by omega) (by omega)
 have zI:okN (sg*(n:Int)):=by unfold okN; rcases Xh with rfl | rfl <;> omega
 unfold Ee nS;refine ae.bind (r:=(((),(),sg,(n:Int),st s q k 0,z9,()):Unit×Unit×Int×Int×RS×V9×Unit)) (ae.neg (by simpa using yh) (.ret _)) ?_;simp only[hw];exact ae.bind (D6 _ zI) (.ret _)
theorem vQ (s:By) (sg:Int) (Xh:sg=1\/sg = -1) (q:By) (k:Int):ae (fun F=>Ee F (nS sg 0 0 (st s q k 0))) ((3,[48],[],0,[],[],()),st s q k 3):=by
 have hw:IntKind.i64.wrap (sg*((0:Nat):Int))=0:=by rcases Xh with rfl | rfl <;> rfl
 have zI:okN 0:=by unfold okN; omega
 have hi:itoa 0=[48]:=by unfold itoa; rw[if_neg (by decide)]; exact Go.Lib.decDigits_one (by decide)
 have hd:=D6 0 zI;rw[hi] at hd;unfold Ee nS;refine ae.bind (r:=(((),(),sg,((0:Nat):Int),st s q k 3,z9,()):Unit×Unit×Int×Int×RS×V9×Unit)) (ae.pos rfl (.of fun F => ?_)) ?_
 ·unfold st
  simp only[bad_eq,ada,if_true]
 ·simp only[hw]
  exact ae.bind hd (.ret _)
theorem NM (s r:By) (h:r <:+ s) (hs:s.length<=1000) (k:Int):∃ y,ae (fun F=>bp F (st s r k 0)) y/\(match yq r with
  | some (n,q)=>y=((3,itoa n,[],n,[],[],()),st s q k 0)
  | none => ∃ r',r' <:+ s/\y=((3,[48],[],0,[],[],()),st s r' k 3)):=by
 have run:∀ (sg:Int) (x:By) (z:V9×RS),(if isH r 0 45=true then some ((),(),-1,(s,IntKind.i64.wrap (((s.length-r.length:Nat):Int)+1),k,0,()),z9,()) else some ((),(),1,(s,((s.length-r.length:Nat):Int),k,0,()),z9,()):Option (Unit×Unit×Int×RS×V9×Unit))=some ((),(),sg,st s x k 0,z9,())->x <:+ s->ae (fun F=>Ee F (nS sg (sY (ed x)) (ed x).length (st s (x.drop (ed x).length) k 0))) z->ae (fun F=>bp F (st s r k 0)) z:=by
  intro sg x z h1 hx hz;refine ae.congr (m:=fun F => _) ?_ fun F=>Sr F _
  refine ae.bind (.of fun F=>Ue F s r h k 0 45) ?_;refine ae.bind (.of fun F=>h1) ?_;exact ae.bind (MZ s hs k sg x hx).run hz
 have r8:=Cb;have dl:∀ x,ed x ≠ []->(ed x).length≠0:=fun x hx hh=>hx (List.length_eq_zero_iff.1 hh)
 unfold yq;cases r with
 | nil =>
  refine ⟨_,run 1 [] _ ?_ h (vQ s 1 (.inl rfl) [] k),[],h,rfl⟩;rw[LB];rfl
 | cons c q =>
  simp only;by_cases c45:c=45
  ·subst c45
   rw[if_pos rfl];have h1:(if isH ((45:UInt8)::q) 0 45=true then some ((),(),-1,(s,IntKind.i64.wrap (((s.length-((45:UInt8)::q).length:Nat):Int)+1),k,0,()),z9,()) else some ((),(),1,(s,((s.length-((45:UInt8)::q).length:Nat):Int),k,0,()),z9,()):Option (Unit×Unit×Int×RS×V9×Unit))=some ((),(),-1,st s q k 0,z9,()):=by
    rw[j9,el h hs];rfl
   by_cases hd:ed q=[]
   ·rw[if_pos hd]
    refine ⟨_,run (-1) q _ h1 (cQ h) ?_,q,cQ h,rfl⟩;rw[hd];exact vQ s (-1) (.inr rfl) q k
   ·rw[if_neg hd]
    refine ⟨_,run (-1) q _ h1 (cQ h) (EP s (-1) (.inr rfl) _ _ (r8 q) _ k (dl q hd)),?_⟩;simp only[Int.neg_mul,Int.one_mul]
  ·rw[if_neg c45]
   have h1:(if isH (c::q) 0 45=true then some ((),(),-1,(s,IntKind.i64.wrap (((s.length-(c::q).length:Nat):Int)+1),k,0,()),z9,()) else some ((),(),1,(s,((s.length-(c::q).length:Nat):Int),k,0,()),z9,()):Option (Unit×Unit×Int×RS×V9×Unit))=some ((),(),1,st s (c::q) k 0,z9,()):=by
    rw[j9,adh c45];rfl
   by_cases hd:ed (c::q)=[]
   ·rw[if_pos hd]
    refine ⟨_,run 1 (c::q) _ h1 h ?_,c::q,h,rfl⟩;rw[hd];exact vQ s 1 (.inl rfl) (c::q) k
   ·rw[if_neg hd]
    refine ⟨_,run 1 (c::q) _ h1 h (EP s 1 (.inl rfl) _ _ (r8 (c::q)) _ k (dl _ hd)),?_⟩;simp only[Int.one_mul]
end Go.Vm
