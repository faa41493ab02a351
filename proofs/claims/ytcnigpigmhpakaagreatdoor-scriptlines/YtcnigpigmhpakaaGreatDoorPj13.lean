/- JSON: the document's strings, numbers, quotes, places are the plain ones. No condition but on lengths. -/
import Derived.Test.YtcnigpigmhpakaaGreatDoorPj12
namespace Go.Vm
open Go.Lib (decodeL decodeN decodeL_N decode_N decodeN_shape decodeL_le decDigits itoa)
set_option linter.unusedVariables false
set_option linter.unusedSimpArgs false
/-! ### escapes -/
noncomputable def e9T (F:Nat) (t:Bool×By×Int×RS):Option (By×RS):=(if t.1=true then (bK F (t.2.1,8)).bind fun v20=>(if decide (56320≤v20)=true then some ((),t.2.2.1,v20,decide (v20≤57343),(t.2.2.2.1,t.2.2.2.2.1,t.2.2.2.2.2.1,t.2.2.2.2.2.2.1,()),()) else some ((),t.2.2.1,v20,false,(t.2.2.2.1,t.2.2.2.2.1,t.2.2.2.2.2.1,t.2.2.2.2.2.2.1,()),()):Option (Unit×Int×Int×Bool×RS×Unit)).bind fun v21=>if v21.2.2.2.1=true then (aO F (IntKind.i64.wrap (IntKind.i64.wrap (IntKind.i64.wrap (65536+IntKind.i64.wrap (IntKind.i64.wrap (v21.2.1 - 55296) * 1024))+v21.2.2.1) - 56320))).bind fun v22=>some (Sum.inr ((),v22,(v21.2.2.2.2.1.1,IntKind.i64.wrap (v21.2.2.2.2.1.2.1+12),v21.2.2.2.2.1.2.2.1,v21.2.2.2.2.1.2.2.2.1,()),())) else some (Sum.inl ((),(v21.2.2.2.2.1.1,v21.2.2.2.2.1.2.1,v21.2.2.2.2.1.2.2.1,v21.2.2.2.2.1.2.2.2.1,()),())) else some (Sum.inl ((),(t.2.2.2.1,t.2.2.2.2.1,t.2.2.2.2.2.1,t.2.2.2.2.2.2.1,()),())):Option ((Unit×RS×Unit) ⊕ (Unit×By×RS×Unit))).bind fun v23=>eW v23 (fun v24=>(aj F ((v24.2.1.1,v24.2.1.2.1,v24.2.1.2.2.1,v24.2.1.2.2.2.1,()),3)).bind fun v25=>some ([],v25.2.1,v25.2.2.1,v25.2.2.2.1,v25.2.2.2.2.1,())) fun v26=>some (v26.2.1,v26.2.2.1.1,v26.2.2.1.2.1,v26.2.2.1.2.2.1,v26.2.2.1.2.2.2.1,())
noncomputable def e9C (rest:By) (n:Int) (rs:RS) (b:Bool):Option (Bool×By×Int×RS) :=
 (if b=true then some ((),rest,n,decide (8≤(rest.length:Int)),(rs.1,rs.2.1,rs.2.2.1,rs.2.2.2.1,()),()) else some ((),rest,n,false,(rs.1,rs.2.1,rs.2.2.1,rs.2.2.2.1,()),()):Option (Unit×By×Int×Bool×RS×Unit)).bind fun v15 =>
   (if v15.2.2.2.1=true then (idx v15.2.1 6).bind fun v16=>some ((),v15.2.1,v15.2.2.1,decide ((v16.toNat:Int)=92),(v15.2.2.2.2.1.1,v15.2.2.2.2.1.2.1,v15.2.2.2.2.1.2.2.1,v15.2.2.2.2.1.2.2.2.1,()),())
    else some ((),v15.2.1,v15.2.2.1,false,(v15.2.2.2.2.1.1,v15.2.2.2.2.1.2.1,v15.2.2.2.2.1.2.2.1,v15.2.2.2.2.1.2.2.2.1,()),()):Option (Unit×By×Int×Bool×RS×Unit)).bind fun v17 =>
   (if v17.2.2.2.1=true then (idx v17.2.1 7).bind fun v18=>some ((),v17.2.1,v17.2.2.1,decide ((v18.toNat:Int)=117),(v17.2.2.2.2.1.1,v17.2.2.2.2.1.2.1,v17.2.2.2.2.1.2.2.1,v17.2.2.2.2.1.2.2.2.1,()),())
    else some ((),v17.2.1,v17.2.2.1,false,(v17.2.2.2.2.1.1,v17.2.2.2.2.1.2.1,v17.2.2.2.2.1.2.2.1,v17.2.2.2.2.1.2.2.2.1,()),()):Option (Unit×By×Int×Bool×RS×Unit)).bind fun v19 =>
   some (v19.2.2.2.1,v19.2.1,v19.2.2.1,v19.2.2.2.2.1)
noncomputable def e9B (F:Nat) (n:Int) (rs:RS):Option (By×RS):=(aO F n).bind fun v13=>some (v13,rs.1,IntKind.i64.wrap (rs.2.1+6),rs.2.2.1,rs.2.2.2.1,())
theorem FQ (F:Nat) (rest:By) (rs:RS) (n:Int):e9K F rest rs n=if 0≤n∧(n<55296∨57343<n) then e9B F n rs else (e9C rest n rs (decide (55296≤n∧n<56320))).bind (e9T F):=by
 refine Eq.trans ?_ (Jv 55296 57343 56320 0 rest rs n (fun _=>True) (e9B F) (fun a b c d=>(e9C a b c d).bind (e9T F)))
 unfold e9K e9C
 simp only [Option.bind_assoc,Option.bind_some]
 rfl
theorem tW {s r:By} (h:r <:+ s) (hs:s.length≤1000) (m:Nat) (hm:m≤r.length):IntKind.i64.wrap (((s.length - r.length:Nat):Int)+(m:Int))=((s.length - (r.drop m).length:Nat):Int):=by
 have:=dS h
 rw [wrap64 _ (by omega) (by omega),List.length_drop]
 omega
def JB (s q:By) (k:Int):By×RS:=match lT q with
 | some (c,m)=>(cj c,st s ((92 :: q).drop m) k 0)
 | none=>([],st s (92 :: q) k 3)
theorem H8 (s q:By) (x y:UInt8) (hq:x :: y :: q <:+ s) (hs:s.length≤1000) (k:Int) (n:Nat) (hn:n<65536) (c1 : ¬ n<55296) (c3 : ¬ 56320≤n) (h4:4≤q.length) :
  ae (fun F=>e9T F (decide ((q.drop 4).take 2 = [92,117]),x :: y :: q,(n:Int),st s (x :: y :: q) k 0)) (match sF n (q.drop 4) with
   | some (c,m)=>(cj c,st s ((x :: y :: q).drop m) k 0)
   | none=>([],st s (x :: y :: q) k 3)):=by
 unfold e9T
 by_cases hp:(q.drop 4).take 2 = [92,117]
 ·obtain ⟨q',hq'⟩:=IW hp
  have hd8:(x :: y :: q).drop 8=q':=by
   rw [show (x :: y :: q).drop 8=(q.drop 4).drop 2 by simp,hq']; rfl
  have hhex:=Hl (x :: y :: q) 8 (by decide)
  rw [hd8] at hhex
  rw [decide_eq_true hp]
  rw [hq']
  unfold sF
  simp only
  unfold vV at hhex
  cases hm:lE q' with
  | none =>
   rw [hm] at hhex
   rw [Option.bind_none]
   refine ae.bind (r := .inl ((),st s (x :: y :: q) k 0,())) ?_ ?_
   ·refine ae.pos trivial ?_
    refine ae.bind hhex ?_
    exact .ret _
   ·exact .of fun F=>by unfold st; simp only [aE,bad_eq,Option.bind_some,if_true]
  | some m =>
   rw [hm] at hhex
   obtain ⟨m1,m2⟩:=pw hm
   rw [Option.bind_some]
   by_cases c5:56320≤m∧m≤57343
   ·rw [if_pos c5]
    have hpr:=Jf n m c1 hn c5.1 c5.2
    have hok:okR (ru n m):=by unfold okR ru; omega
    have hlen:12≤(x :: y :: q).length:=by
     have:=congrArg List.length hq'
     simp at this
     simp; omega
    have hst:=tW hq hs 12 hlen
    refine ae.bind (r := .inr ((),cj (ru n m),st s ((x :: y :: q).drop 12) k 0,())) ?_ ?_
    ·refine ae.pos trivial ?_
     refine ae.bind hhex ?_
     refine ae.congr (m:=fun F => _) ?_ fun F=>Dg 56320 57343 (n:Int) (m:Int) (st s (x :: y :: q) k 0) (fun a b rs=>(aO F (IntKind.i64.wrap (IntKind.i64.wrap (IntKind.i64.wrap (65536+IntKind.i64.wrap (IntKind.i64.wrap (a - 55296) * 1024))+b) - 56320))).bind fun v22=>some (Sum.inr ((),v22,(rs.1,IntKind.i64.wrap (rs.2.1+12),rs.2.2.1,rs.2.2.2.1,()),())))
     refine ae.pos (by omega) ?_
     refine .of fun F => ?_
     rw [hpr,sX F _ hok,Option.bind_some,lI _ hok]
     have hst':IntKind.i64.wrap (((s.length - (x :: y :: q).length:Nat):Int)+12)=((s.length - ((x :: y :: q).drop 12).length:Nat):Int):=hst
     unfold st
     simp only [hst']
    ·exact .of fun F=>by rw [aZ]
   ·rw [if_neg c5]
    refine ae.bind (r := .inl ((),st s (x :: y :: q) k 0,())) ?_ ?_
    ·refine ae.pos trivial ?_
     refine ae.bind hhex ?_
     refine ae.congr (m:=fun F => _) ?_ fun F=>Dg 56320 57343 (n:Int) (m:Int) (st s (x :: y :: q) k 0) (fun a b rs=>(aO F (IntKind.i64.wrap (IntKind.i64.wrap (IntKind.i64.wrap (65536+IntKind.i64.wrap (IntKind.i64.wrap (a - 55296) * 1024))+b) - 56320))).bind fun v22=>some (Sum.inr ((),v22,(rs.1,IntKind.i64.wrap (rs.2.1+12),rs.2.2.1,rs.2.2.2.1,()),())))
     exact ae.neg (by omega) (.ret _)
    ·exact .of fun F=>by unfold st; simp only [aE,bad_eq,Option.bind_some,if_true]
 ·rw [decide_eq_false hp,wK hp]
  refine ae.bind (r := .inl ((),st s (x :: y :: q) k 0,())) (ae.neg Bool.false_ne_true (.ret _)) ?_
  exact .of fun F=>by unfold st; simp only [aE,bad_eq,Option.bind_some,if_true]
theorem KC (s q:By) (x y:UInt8) (hq:x :: y :: q <:+ s) (hs:s.length≤1000) (k:Int):ae (fun F=>e9K F (x :: y :: q) (st s (x :: y :: q) k 0) (vV q)) (match sf q with
  | some (c,m)=>(cj c,st s ((x :: y :: q).drop m) k 0)
  | none=>([],st s (x :: y :: q) k 3)):=by
 refine ae.congr (m:=fun F => _) ?_ fun F=>FQ F _ _ _
 unfold sf vV
 cases hn:lE q with
 | none =>
  rw [Option.bind_none]
  dsimp only
  refine ae.neg (by simp) ?_
  rw [decide_eq_false (by omega)]
  refine ae.bind (.of fun F=>(show e9C (x :: y :: q) (-1) (st s (x :: y :: q) k 0) false=some (false,x :: y :: q, -1,st s (x :: y :: q) k 0) from rfl)) ?_
  unfold e9T
  refine ae.bind (r := .inl ((),st s (x :: y :: q) k 0,())) (ae.neg Bool.false_ne_true (.ret _)) ?_
  exact .of fun F=>by unfold st; simp only [aE,bad_eq,Option.bind_some,if_true]
 | some n =>
  obtain ⟨n1,n2⟩:=pw hn
  rw [Option.bind_some]
  dsimp only
  by_cases c1:n<55296∨57343<n
  ·rw [if_pos c1]
   have hok:okR n:=by unfold okR; omega
   have hst:=tW hq hs 6 (by simp; omega)
   refine ae.pos (by omega) (.of fun F => ?_)
   unfold e9B
   rw [sX F n hok,Option.bind_some,lI n hok]
   have hst':IntKind.i64.wrap (((s.length - (x :: y :: q).length:Nat):Int)+6)=((s.length - ((x :: y :: q).drop 6).length:Nat):Int):=hst
   unfold st
   simp only [hst']
  rw [if_neg c1]
  refine ae.neg (by omega) ?_
  by_cases c3:56320≤n
  ·rw [if_pos c3,decide_eq_false (by omega)]
   refine ae.bind (.of fun F=>(show e9C (x :: y :: q) (n:Int) (st s (x :: y :: q) k 0) false=some (false,x :: y :: q,(n:Int),st s (x :: y :: q) k 0) from rfl)) ?_
   unfold e9T
   refine ae.bind (r := .inl ((),st s (x :: y :: q) k 0,())) (ae.neg Bool.false_ne_true (.ret _)) ?_
   exact .of fun F=>by unfold st; simp only [aE,bad_eq,Option.bind_some,if_true]
  ·rw [if_neg c3,decide_eq_true (by omega)]
   refine ae.bind (Je s [] q x y hq hs k n n1 (by omega) (by omega) n2) ?_
   exact H8 s q x y hq hs k n n1 (by omega) c3 n2
theorem Eh (s q:By) (hq:92 :: q <:+ s) (hs:s.length≤1000) (k:Int):ae (fun F=>bT F (st s (92 :: q) k 0)) (JB s q k):=by
 refine ae.congr (m:=fun F => _) ?_ fun F=>B2 F _
 have hl:=dS hq
 refine ae.bind (r:=(((),92 :: q,st s (92 :: q) k 0,()):Unit×By×RS×Unit)) ?_ ?_
 ·exact ae.bind (.of fun F=>ua hq) (.ret _)
 unfold JB
 cases q with
 | nil =>
  refine ae.pos (by simp) (.of fun F => ?_)
  unfold st
  simp only [bad_eq,Option.bind_some,if_true]
  rfl
 | cons c r =>
  refine ae.neg (by simp; omega) ?_
  have hi:idx ((92:UInt8) :: c :: r) 1=some c:=eQ _ 1 _ rfl
  have hloop:=GG s (92 :: c :: r) r c hi ((s.length - (92 :: c :: r).length:Nat):Int) k 0 (by omega)
  have hst2:=tW hq hs 2 (by simp)
  rw [He]
  cases hs':BB c with
  | some x =>
   rw [hs'] at hloop
   refine ae.bind hloop.run ?_
   refine .of fun F => ?_
   have hp2:((s.length - (92 :: c :: r).length:Nat):Int)+2=((s.length - ((92 :: c :: r).drop 2).length:Nat):Int):=by
    rw [← hst2,wrap64 _ (by simp only [List.length_cons] at hl ⊢; omega) (by simp only [List.length_cons] at hl ⊢; omega)]; rfl
   simp only [aZ,HN hs']
   unfold st
   rw [hp2]
  | none =>
   rw [hs'] at hloop
   refine ae.bind hloop.run ?_
   simp only [aE]
   refine ae.bind (.of fun F=>hi) ?_
   have hv:=nvB c 117
   rw [show ((117:UInt8).toNat:Int)=117 from rfl] at hv
   by_cases h117:c=117
   ·subst h117
    refine ae.bind (r:=(((),92 :: 117 :: r,vV r,st s (92 :: 117 :: r) k 0,()):Unit×By×Int×RS×Unit)) ?_ ?_
    ·refine ae.pos (by decide) ?_
     exact ae.bind (Hl (92 :: 117 :: r) 2 (by decide)) (.ret _)
    ·rw [if_pos rfl]
     exact KC s r 92 117 hq hs k
   ·refine ae.bind (r:=(((),92 :: c :: r, -1,st s (92 :: c :: r) k 0,()):Unit×By×Int×RS×Unit)) ?_ ?_
    ·exact ae.neg (by simp only [hv,decide_eq_true_eq]; exact h117) (.ret _)
    ·rw [if_neg h117]
     refine ae.congr (m:=fun F => _) ?_ fun F=>FQ F _ _ _
     refine ae.neg (by simp) ?_
     dsimp only
     rw [decide_eq_false (by omega)]
     refine ae.bind (.of fun F=>(show e9C (92 :: c :: r) (-1) (st s (92 :: c :: r) k 0) false=some (false,92 :: c :: r, -1,st s (92 :: c :: r) k 0) from rfl)) ?_
     unfold e9T
     refine ae.bind (r := .inl ((),st s (92 :: c :: r) k 0,())) (ae.neg Bool.false_ne_true (.ret _)) ?_
     exact .of fun F=>by unfold st; simp only [aE,bad_eq,Option.bind_some,if_true]
/-! ### strings -/
abbrev T9:=Unit×RS×Unit ⊕ Unit×By×RS×Unit
abbrev TS9:=(Unit×By×RS×Unit) ⊕ T9
def T9R (s:By) (k:Int) (out q:By) (y:T9):Prop:=match txt q with
 | some (t,q')=>y = .inr ((),out ++ t,st s q' k 0,())
 | none => ∃ r,r <:+ s∧(y = .inl ((),st s r k 3,())∨y = .inr ((),[],st s r k 3,()))
theorem DN (s r:By) (k:Int) (out:By):af ay ((),out,st s r k 3,()) (.inl ((),st s r k 3,())):=by
 refine af.fin (.of fun F => ?_)
 unfold ay st
 rfl
theorem Bo (s:By) (hs:s.length≤1000) (k:Int) : ∀ (n:Nat) (q out:By),q <:+ s→q.length≤n→out.length≤4 * (1000 - q.length) → ∃ y,af ay ((),out,st s q k 0,()) y∧T9R s k out q y:=by
 intro n
 induction n with
 | zero =>
  intro q out hq hn ho
  have:q = []:=List.length_eq_zero_iff.1 (by omega)
  subst this
  refine ⟨.inr ((),[],st s [] k 3,()),af.fin (.of fun F => ?_),?_⟩
  ·unfold ay st
   have:(s.length:Int)≤((s.length - ([]:By).length:Nat):Int):=by simp
   simp only [decide_true,if_true,this,bad_eq,Option.bind_some]
  ·unfold T9R; rw [rr]; exact ⟨[],hq, .inr rfl⟩
 | succ n ih =>
  intro q out hq hn ho
  cases q with
  | nil =>
   refine ⟨.inr ((),[],st s [] k 3,()),af.fin (.of fun F => ?_),?_⟩
   ·unfold ay st
    have:(s.length:Int)≤((s.length - ([]:By).length:Nat):Int):=by simp
    simp only [decide_true,if_true,this,bad_eq,Option.bind_some]
   ·unfold T9R; rw [rr]; exact ⟨[],hq, .inr rfl⟩
  | cons c q =>
   have hl:=dS hq
   simp only [List.length_cons] at hl hn ho
   have hin:=ox hq
   have hnin : ¬ (s.length:Int)≤((s.length - (c :: q).length:Nat):Int):=by omega
   have hi:=iC hq
   have n34:=nvB c 34; have n92:=nvB c 92
   rw [show ((34:UInt8).toNat:Int)=34 from rfl] at n34
   rw [show ((92:UInt8).toNat:Int)=92 from rfl] at n92
   by_cases c1:c=34
   ·subst c1
    refine ⟨.inr ((),out,st s q k 0,()),af.fin (.of fun F => ?_),?_⟩
    ·unfold ay st
     simp only [decide_true,if_true,hnin,decide_false,Bool.false_eq_true,if_false,hi,Option.bind_some,n34,dk hq hs]
    ·unfold T9R; rw [fu,if_pos rfl]; dsimp only; rw [List.append_nil]
   by_cases c2:c=92
   ·subst c2
    have hesc:=Eh s q hq hs k
    unfold JB at hesc
    have hbody : ∀ (e:By×RS),ae (fun F=>bT F (st s (92 :: q) k 0)) e→out.length+e.1.length≤100000→ae (fun F=>ay F ((),out,st s (92 :: q) k 0,())) (.inl ((),out ++ e.1,e.2,())):=by
     intro e he hel
     unfold ay
     refine ae.pos rfl ?_
     refine ae.neg (by simpa [st] using hnin) ?_
     refine ae.bind (r:=(((),out,false,st s (92 :: q) k 0,()):Unit×By×Bool×RS×Unit)) (ae.bind (.of fun F=>hi) (.ret _)) ?_
     refine ae.neg Bool.false_ne_true ?_
     refine ae.bind (r:=(((),out,true,st s (92 :: q) k 0,()):Unit×By×Bool×RS×Unit)) (ae.bind (.of fun F=>hi) (.ret _)) ?_
     refine ae.pos rfl ?_
     refine ae.bind he ?_
     refine ae.pos (by simp only [decide_eq_true_eq]; omega) (.ret _)
    cases he:lT q with
    | none =>
     rw [he] at hesc
     refine ⟨.inl ((),st s (92 :: q) k 3,()),af.step (hbody _ hesc (by simp; omega)) (DN s _ k _),?_⟩
     unfold T9R
     rw [fu,if_neg (by decide),if_pos rfl,he,Option.bind_none]
     exact ⟨_,hq, .inl rfl⟩
    | some w =>
     obtain ⟨c',m⟩:=w
     rw [he] at hesc
     obtain ⟨q1,q2,q3,q4⟩:=yv he
     have hel:=qT c'
     have hsuf:(92 :: q).drop m <:+ s:=(List.drop_suffix _ _).trans hq
     have hdl:((92 :: q).drop m).length=q.length+1 - m:=by simp
     obtain ⟨y,i1,i2⟩:=ih ((92 :: q).drop m) (out ++ cj c') hsuf (by rw [hdl]; omega) (by rw [List.length_append,hdl]; omega)
     refine ⟨y,af.step (hbody _ hesc (by simp only; omega)) i1,?_⟩
     unfold T9R at i2 ⊢
     rw [fu,if_neg (by decide),if_pos rfl,he,Option.bind_some]
     cases ht:txt ((92 :: q).drop m) with
     | none=>rw [ht] at i2; exact i2
     | some w =>
      rw [ht] at i2
      simp only [Option.map_some]
      rw [← List.append_assoc]
      exact i2
   ·-- a sign
    have hpos:=fw (c :: q)
    have hle:=decodeL_le (c :: q) (by simp)
    have hfirst:=fun F=>zW F (c :: q) (by simp)
    have hten:=iO (c :: q) (by simp)
    have hsubs:=ua hq
    have hsm:=tU hq (decodeL (c :: q)).2 hle
    have hst:=tW hq hs (decodeL (c :: q)).2 hle
    have hok:=rU (c :: q)
    rw [List.length_cons] at hle
    have hdl:((c :: q).drop (decodeL (c :: q)).2).length=q.length+1 - (decodeL (c :: q)).2:=by simp
    have hsuf:(c :: q).drop (decodeL (c :: q)).2 <:+ s:=(List.drop_suffix _ _).trans hq
    have htl:((c :: q).take (decodeL (c :: q)).2).length=(decodeL (c :: q)).2:=by simp; omega
    generalize hD1:(decodeL (c :: q)).1=D1 at *
    generalize hD2:(decodeL (c :: q)).2=D2 at *
    generalize hFF:(65533:Nat)=FF at *
    have hFFi:(65533:Int)=(FF:Int):=by rw [← hFF]; rfl
    have hwE:IntKind.i64.wrap (((s.length - (c :: q).length:Nat):Int)+(D2:Int))=((s.length - ((c :: q).length - D2):Nat):Int):=by rw [hst]; congr 2
    -- what the tests tell
    have flag : ∀ F:Nat,(if decide ((D1:Int)<32)=false then if decide ((D1:Int)=65533)=true then some ((),out,(D2:Int),decide ((D2:Int)=1),st s (c :: q) k 0,()) else some ((),out,(D2:Int),false,st s (c :: q) k 0,()) else some ((),out,(D2:Int),true,st s (c :: q) k 0,()):Option (Unit×By×Int×Bool×RS×Unit))=some ((),out,(D2:Int),decide (D1<32∨(D1=FF∧D2=1)),st s (c :: q) k 0,()):=by
     intro F
     rw [hFFi]
     by_cases b1:D1<32
     ·have b1':(D1:Int)<32:=by omega
      rw [decide_eq_true b1',if_neg (by decide),decide_eq_true (.inl b1)]
     ·have b1' : ¬ (D1:Int)<32:=by omega
      rw [decide_eq_false b1',if_pos rfl]
      by_cases b2:D1=FF
      ·have b2':(D1:Int)=(FF:Int):=by rw [b2]
       rw [decide_eq_true b2',if_pos rfl]
       by_cases b3:D2=1
       ·have b3':(D2:Int)=1:=by omega
        rw [decide_eq_true b3',decide_eq_true (.inr ⟨b2,b3⟩)]
       ·have b3' : ¬ (D2:Int)=1:=by omega
        rw [decide_eq_false b3',decide_eq_false (fun hh=>hh.elim b1 (fun h=>b3 h.2))]
      ·have b2' : ¬ (D1:Int)=(FF:Int):=by omega
       rw [decide_eq_false b2',if_neg (by decide),decide_eq_false (fun hh=>hh.elim b1 (fun h=>b2 h.1))]
    have ahead : ∀ (z:TS9) ,ae (fun F=>(some ((),out,(D2:Int),decide (D1<32∨(D1=FF∧D2=1)),st s (c :: q) k 0,()):Option (Unit×By×Int×Bool×RS×Unit)).bind fun v10 =>
       if v10.2.2.2.1=true then
        (aj F ((v10.2.2.2.2.1.1,v10.2.2.2.2.1.2.1,v10.2.2.2.2.1.2.2.1,v10.2.2.2.2.1.2.2.2.1,()),3)).bind fun v11=>some (Sum.inr (Sum.inr ((),[],(v11.2.1,v11.2.2.1,v11.2.2.2.1,v11.2.2.2.2.1,()),())))
       else
        ((sub v10.2.2.2.2.1.1 v10.2.2.2.2.1.2.1 (IntKind.i64.wrap (v10.2.2.2.2.1.2.1+v10.2.2.1))).bind fun v12 =>
          if decide (v10.2.1.length+v12.length≤9223372036854775807)=true then
           some ((),v10.2.1 ++ v12,v10.2.2.1,(v10.2.2.2.2.1.1,v10.2.2.2.2.1.2.1,v10.2.2.2.2.1.2.2.1,v10.2.2.2.2.1.2.2.2.1,()),())
          else none:Option (Unit×By×Int×RS×Unit)).bind fun v13 =>
        some (Sum.inl ((),v13.2.1,(v13.2.2.2.1.1,IntKind.i64.wrap (v13.2.2.2.1.2.1+v13.2.2.1),v13.2.2.2.1.2.2.1,v13.2.2.2.1.2.2.2.1,()),()))) z→ae (fun F=>ay F ((),out,st s (c :: q) k 0,())) z:=by
     intro z hz
     unfold ay
     refine ae.pos rfl ?_
     refine ae.neg (by simpa [st] using hnin) ?_
     refine ae.bind (r:=(((),out,false,st s (c :: q) k 0,()):Unit×By×Bool×RS×Unit)) (ae.bind (.of fun F=>hi) (.of fun F=>by simp only [n34,decide_eq_false c1])) ?_
     refine ae.neg Bool.false_ne_true ?_
     refine ae.bind (r:=(((),out,false,st s (c :: q) k 0,()):Unit×By×Bool×RS×Unit)) (ae.bind (.of fun F=>hi) (.of fun F=>by simp only [n92,decide_eq_false c2])) ?_
     refine ae.neg Bool.false_ne_true ?_
     refine ae.bind (r:=(((),out,(D1:Int),(D2:Int),st s (c :: q) k 0,()):Unit×By×Int×Int×RS×Unit)) (ae.bind (.of fun F=>hsubs) (ae.bind (.of hfirst) (.ret _))) ?_
     refine ae.bind (.of flag) ?_
     exact hz
    by_cases hbad:D1<32∨(D1=FF∧D2=1)
    ·refine ⟨.inr ((),[],st s (c :: q) k 3,()),af.fin (ahead _ (.of fun F => ?_)),?_⟩
     ·rw [decide_eq_true hbad,Option.bind_some]
      unfold st
      simp only [if_true,bad_eq,Option.bind_some]
     ·unfold T9R
      rw [fu,if_neg c1,if_neg c2,hD1,hD2,hFF,if_pos hbad]
      exact ⟨_,hq, .inr rfl⟩
    ·have ht:=hten (fun hh=>hbad (.inr hh))
     obtain ⟨y,i1,i2⟩:=ih ((c :: q).drop D2) (out ++ (c :: q).take D2) hsuf (by rw [hdl]; omega) (by rw [List.length_append,hdl,htl]; omega)
     refine ⟨y,af.step (ahead _ (.of fun F => ?_)) i1,?_⟩
     ·rw [decide_eq_false hbad,Option.bind_some]
      have hsm':sub s ((s.length - (c :: q).length:Nat):Int) (IntKind.i64.wrap (((s.length - (c :: q).length:Nat):Int)+(D2:Int)))=some ((c :: q).take D2):=by rw [hwE]; exact hsm
      unfold st
      rw [hst] at hsm'
      simp only [Bool.false_eq_true,if_false,hst,hsm',Option.bind_some]
      rw [if_pos (by rw [decide_eq_true_eq,htl]; omega)]
      simp only [Option.bind_some,hst]
     ·unfold T9R at i2 ⊢
      rw [fu,if_neg c1,if_neg c2,hD1,hD2,hFF,if_neg hbad]
      cases hx:txt ((c :: q).drop D2) with
      | none=>rw [hx] at i2; exact i2
      | some w =>
       rw [hx] at i2
       simp only [Option.map_some]
       rw [← List.append_assoc]
       exact i2
theorem Dh (s r:By) (h:34 :: r <:+ s) (hs:s.length≤1000) (k:Int) : ∃ y,ae (fun F=>aI F (st s (34 :: r) k 0)) y∧(match txt r with
  | some (t,q)=>y=(t,st s q k 0)
  | none => ∃ r',r' <:+ s∧y=([],st s r' k 3)):=by
 have hr:=cr h
 obtain ⟨y,h1,h2⟩:=Bo s hs k r.length r [] hr (Nat.le_refl _) (by simp)
 have e0:((),([]:By),(s,IntKind.i64.wrap (((s.length - (34 :: r).length:Nat):Int)+1),k,(0:Int),()),())=(((),[],st s r k 0,()):Unit×By×RS×Unit):=by rw [dk h hs]; rfl
 have run : ∀ z,ae (fun F=>eW y (fun v15=>some (([]:By),v15.2.1.1,v15.2.1.2.1,v15.2.1.2.2.1,v15.2.1.2.2.2.1,())) fun v16=>some (v16.2.1,v16.2.2.1.1,v16.2.2.1.2.1,v16.2.2.1.2.2.1,v16.2.2.1.2.2.2.1,())) z→ae (fun F=>aI F (st s (34 :: r) k 0)) z:=by
  intro z hz
  unfold aI
  unfold st
  simp only
  rw [e0]
  exact h1.run.bind hz
 unfold T9R at h2
 cases ht:txt r with
 | none =>
  rw [ht] at h2
  obtain ⟨r',h3,rfl | rfl⟩:=h2
  ·exact ⟨_,run _ (.ret _),r',h3,rfl⟩
  ·exact ⟨_,run _ (.ret _),r',h3,rfl⟩
 | some w =>
  obtain ⟨t,q⟩:=w
  rw [ht] at h2
  subst h2
  exact ⟨_,run _ (.ret _),by rw [List.nil_append]⟩
end Go.Vm
