/- Acts as lines: the document's value, Has and Print. No condition but on lengths. -/
import Derived.Test.YtcnigpigmhpakaaGreatDoorPsc6
namespace Go.Vm
open Go.Proofs
open Go.Lib (decodeL decDigits itoa validD)
set_option linter.unusedVariables false
set_option linter.unusedSimpArgs false
/-! ### the first piece -/
def KO (y:By×Unit ⊕ By×By×Unit):By×By:=match y with
 | .inl x=>(x.1,[])
 | .inr x=>(x.1,x.2.1)
theorem uA (s:By) (k:Nat) (h:k<s.length):s.take (k+1)=s.take k ++ [s[k]]:=(List.take_append_getElem h).symm
theorem Hc (F:Nat) (s:By) (i:Nat) (o:Bool) (hi:i<s.length) (hs:s.length≤1000000) :
  bL F (s,o,(i:Int),())=some (
   if o=true∧s[i]=92 then .inl (s,o,((i+2:Nat):Int),())
   else if s[i]=34 then .inl (s, !o,((i+1:Nat):Int),())
   else if s[i]=32∧o=false then .inr (.inr (s.take i,s.drop (i+1),()))
   else .inl (s,o,((i+1:Nat):Int),())):=by
 have hx:=uU s i (i:Int) rfl hi
 have hw:IntKind.i64.wrap ((i:Int)+1)=((i+1:Nat):Int):=dn i (by omega)
 have hw2:IntKind.i64.wrap (((i+1:Nat):Int)+1)=((i+2:Nat):Int):=dn (i+1) (by omega)
 have hs1:sub s 0 (i:Int)=some (s.take i):=by
  have:=E4 s 0 i (by omega) (by omega)
  simpa using this
 have hs2:sub s ((i+1:Nat):Int) (s.length:Int)=some (s.drop (i+1)):=H3 s (i+1) (by omega)
 have c92:((s[i].toNat:Int)=92)=(s[i]=92):=nvC s[i] 92
 have c34:((s[i].toNat:Int)=34)=(s[i]=34):=nvC s[i] 34
 have c32:((s[i].toNat:Int)=32)=(s[i]=32):=nvC s[i] 32
 unfold bL
 rw [if_pos (show decide ((i:Int)<(s.length:Int))=true by rw [decide_eq_true_eq]; omega)]
 simp only [hx,Option.bind_some,c92,c34,c32]
 by_cases h92:o=true∧s[i]=92
 ·rw [if_pos h92]
  obtain ⟨rfl,h92⟩:=h92
  simp only [h92,if_true,decide_true,Option.bind_some,hw,eW,hw2]
 rw [if_neg h92]
 have e1:(if o=true then some (s,o,(i:Int),decide (s[i]=92),()) else some (s,o,(i:Int),false,()))=some (s,o,(i:Int),false,()):=by
  cases o with
  | true=>rw [if_pos rfl,decide_eq_false (fun e=>h92 ⟨rfl,e⟩)]
  | false=>rfl
 rw [e1]
 simp only [Option.bind_some,hx,c34,c32]
 rw [if_neg (by simp)]
 by_cases h34:s[i]=34
 ·rw [if_pos h34,if_pos (decide_eq_true h34)]
  simp only [Option.bind_some,eW,hw]
 rw [if_neg h34,if_neg (by simpa using h34)]
 by_cases h32:s[i]=32
 ·cases o with
  | true =>
   rw [if_neg (show ¬(s[i]=32∧true=false) by simp),if_pos (decide_eq_true h32)]
   simp only [Option.bind_some,Bool.not_true,eW,hw,Bool.false_eq_true,if_false]
  | false =>
   rw [if_pos (show s[i]=32∧false=false from ⟨h32,rfl⟩),if_pos (decide_eq_true h32)]
   simp only [Option.bind_some,Bool.not_false,if_true,hs1,hw,hs2,eW]
 ·rw [if_neg (show ¬(s[i]=32∧o=false) from fun h=>h32 h.1),if_neg (by simpa using h32)]
  simp only [Option.bind_some,eW,hw,Bool.false_eq_true,if_false]
theorem G0 (s:By) (hs:s.length≤1000000) : ∀ (n i:Nat) (o:Bool),s.length - i≤n → ∃ y,af bL (s,o,(i:Int),()) y∧KO y=eA o false (s.take i) (s.drop i):=by
 intro n
 induction n with
 | zero =>
  intro i o h
  refine ⟨.inl (s,()),af.fin (.of fun F => ?_),?_⟩
  ·unfold bL
   rw [if_neg (by rw [decide_eq_true_eq]; simp only; omega)]
  ·rw [List.drop_of_length_le (by omega),List.take_of_length_le (by omega)]
   rfl
 | succ n ih =>
  intro i o h
  by_cases hi:i<s.length
  case neg =>
   refine ⟨.inl (s,()),af.fin (.of fun F => ?_),?_⟩
   ·unfold bL
    rw [if_neg (by rw [decide_eq_true_eq]; simp only; omega)]
   ·rw [List.drop_of_length_le (by omega),List.take_of_length_le (by omega)]
    rfl
  have hst:=fun F=>Hc F s i o hi hs
  have hd:s.drop i=s[i] :: s.drop (i+1):=List.drop_eq_getElem_cons hi
  have ht:=uA s i hi
  rw [hd,eA]
  by_cases h92:o=true∧s[i]=92
  ·obtain ⟨y,h1,h2⟩:=ih (i+2) o (by omega)
   refine ⟨y,af.step (.of fun F=>by rw [hst,if_pos h92]) h1,?_⟩
   rw [h2,if_pos h92, ← ht]
   by_cases hi1:i+1<s.length
   ·rw [List.drop_eq_getElem_cons hi1,eA, ← uA s (i+1) hi1]
   ·rw [List.drop_of_length_le (show s.length≤i+2 by omega),List.drop_of_length_le (show s.length≤i+1 by omega),List.take_of_length_le (show s.length≤i+2 by omega),List.take_of_length_le (show s.length≤i+1 by omega)]
    rfl
  rw [if_neg h92]
  by_cases h34:s[i]=34
  ·obtain ⟨y,h1,h2⟩:=ih (i+1) (!o) (by omega)
   refine ⟨y,af.step (.of fun F=>by rw [hst,if_neg h92,if_pos h34]) h1,?_⟩
   rw [h2,if_pos h34,ht]
  rw [if_neg h34]
  by_cases h32:s[i]=32∧o=false
  ·rw [if_pos h32]
   exact ⟨.inr (s.take i,s.drop (i+1),()),af.fin (.of fun F=>by rw [hst,if_neg h92,if_neg h34,if_pos h32]),rfl⟩
  rw [if_neg h32]
  obtain ⟨y,h1,h2⟩:=ih (i+1) o (by omega)
  refine ⟨y,af.step (.of fun F=>by rw [hst,if_neg h92,if_neg h34,if_neg h32]) h1,?_⟩
  rw [h2,ht]
theorem A2 (s:By) (hs:s.length≤1000000):ae (fun F=>dw F s) (eA false false [] s):=by
 obtain ⟨y,h1,h2⟩:=G0 s hs s.length 0 false (by omega)
 rw [List.take_zero,List.drop_zero] at h2
 rw [← h2]
 unfold dw
 refine ae.bind h1.run (.of fun F => ?_)
 cases y with
 | inl x=>rfl
 | inr x=>rfl
theorem lv : ∀ (s:By) (o sk:Bool) (cur:By),(eA o sk cur s).1.length≤cur.length+s.length∧(eA o sk cur s).2.length≤s.length
 | [],o,sk,cur=>by cases sk <;> simp [eA]
 | c :: s,o,true,cur=>by
  rw [eA]
  have:=lv s o false (cur ++ [c])
  simp only [List.length_append,List.length_cons,List.length_nil] at this ⊢
  omega
 | c :: s,o,false,cur=>by
  rw [eA]
  split
  ·have:=lv s o true (cur ++ [c])
   simp only [List.length_append,List.length_cons,List.length_nil] at this ⊢
   omega
  split
  ·have:=lv s (!o) false (cur ++ [c])
   simp only [List.length_append,List.length_cons,List.length_nil] at this ⊢
   omega
  split
  ·simp only [List.length_cons]
   omega
  ·have:=lv s o false (cur ++ [c])
   simp only [List.length_append,List.length_cons,List.length_nil] at this ⊢
   omega
theorem Df : ∀ (f:Nat) (s:By),(oz f s).length≤f ∧ ∀ p∈oz f s,p.length≤s.length
 | 0,s=>⟨by simp [oz],fun p hp=>by simp [oz] at hp⟩
 | f+1,s=>by
  unfold oz
  by_cases h:s = []
  ·rw [if_pos h]; exact ⟨by simp,fun p hp=>by simp at hp⟩
  ·rw [if_neg h]
   obtain ⟨h1,h2⟩:=lv s false false []
   obtain ⟨h3,h4⟩:=Df f (eA false false [] s).2
   refine ⟨by simp only [List.length_cons]; omega,fun p hp => ?_⟩
   rcases List.mem_cons.1 hp with rfl | hp
   ·simpa using h1
   ·have:=h4 p hp; omega
/-! ### has it a line? -/
theorem Gg : ∀ k:Fin 14,aH.getD k.val [] ≠ []:=by decide +kernel
theorem B3 (x:di) (l1:x.key.length≤1000) (l2:x.method.length≤1000) (l3:x.path.length≤1000) (l4:x.body.length≤1000):ae (fun F=>dp F (ofA x)) (ew validD x):=by
 unfold dp
 refine ae.bind (.of fun F=>rH F x.kind) ?_
 by_cases hk:x.kind<0∨14≤x.kind
 ·have hf:ew validD x=false:=by
   rw [Bool.eq_false_iff]
   intro h
   have:=lP h
   unfold ew at h
   simp only [Bool.and_eq_true,Bool.or_eq_true,decide_eq_true_eq] at h
   omega
  rw [hf]
  refine ae.bind (r:=((),ir x.kind,true,ofA x,())) (ae.bind (.of fun F=>r6 F x.kind) ?_) ?_
  ·rw [if_pos hk]
   exact ae.neg (by simp) (.ret _)
  refine ae.bind (r:=((),ir x.kind,true,ofA x,())) (ae.neg (by simp) (.ret _)) ?_
  refine ae.bind (r:=((),ir x.kind,true,ofA x,())) (ae.neg (by simp) (.ret _)) ?_
  refine ae.bind (r:=((),ir x.kind,true,ofA x,())) (ae.neg (by simp) (.ret _)) ?_
  refine ae.bind (r:=((),ir x.kind,true,ofA x,())) (ae.neg (by simp) (.ret _)) ?_
  refine ae.bind (r:=((),true,ofA x,())) (ae.neg (by simp) (.ret _)) ?_
  exact ae.pos rfl (.ret _)
 have hhe:=GV x (by omega) (by omega)
 obtain ⟨k,hk'⟩:=Int.eq_ofNat_of_zero_le (show 0≤x.kind by omega)
 have hu:ir x.kind=(bn x.kind.toNat:Int):=by rw [hk',Int.toNat_natCast,kW]
 have hwn:aH.getD x.kind.toNat [] ≠ []:=Gg ⟨x.kind.toNat,by omega⟩
 rw [hu]
 generalize hug:bn x.kind.toNat=u at hu
 have lt_ : ∀ i:Nat,decide ((u:Int)<((i:Nat):Int)) = !decide (i≤u):=by
  intro i
  by_cases h:i≤u
  ·rw [decide_eq_true h,decide_eq_false (by omega)]; rfl
  ·rw [decide_eq_false h,decide_eq_true (by omega)]; rfl
 refine ae.bind (r:=((),(u:Int), !okI x.a,ofA x,())) (ae.bind (.of fun F=>r6 F x.kind) ?_) ?_
 ·rw [if_neg hk]
  exact ae.pos (decide_eq_false hwn) (ae.bind (.of fun F=>nG F x.a) (.ret _))
 refine ae.bind (ae.orB (c := !okI x.a) (d := !okI x.b) (f:=fun q=>((),(u:Int),q,ofA x,())) (ae.bind (.of fun F=>nG F x.b) (.ret _))) ?_
 refine ae.bind (ae.orB (c := !okI x.a || !okI x.b) (d := !okI x.c) (f:=fun q=>((),(u:Int),q,ofA x,())) (ae.bind (.of fun F=>nG F x.c) (.ret _))) ?_
 refine ae.bind (ae.orB (c := !okI x.a || !okI x.b || !okI x.c) (d:=decide ((u:Int)<3) && !decide (x.c=0)) (f:=fun q=>((),(u:Int),q,ofA x,())) (ae.wE (c:=decide ((u:Int)<3)) (d := !decide (x.c=0)) (f:=fun q=>((),(u:Int),q,ofA x,())) fun _ => .ret _)) ?_
 refine ae.bind (ae.orB (c := !okI x.a || !okI x.b || !okI x.c || (decide ((u:Int)<3) && !decide (x.c=0))) (d:=decide ((u:Int)<2) && !decide (x.b=0)) (f:=fun q=>((),(u:Int),q,ofA x,())) (ae.wE (c:=decide ((u:Int)<2)) (d := !decide (x.b=0)) (f:=fun q=>((),(u:Int),q,ofA x,())) fun _ => .ret _)) ?_
 refine ae.bind (ae.orB (c := !okI x.a || !okI x.b || !okI x.c || (decide ((u:Int)<3) && !decide (x.c=0)) || (decide ((u:Int)<2) && !decide (x.b=0))) (d:=decide ((u:Int)<1) && !decide (x.a=0)) (f:=fun q=>((),q,ofA x,())) (ae.wE (c:=decide ((u:Int)<1)) (d := !decide (x.a=0)) (f:=fun q=>((),q,ofA x,())) fun _ => .ret _)) ?_
 have hq:(!okI x.a || !okI x.b || !okI x.c || (decide ((u:Int)<3) && !decide (x.c=0)) || (decide ((u:Int)<2) && !decide (x.b=0)) || (decide ((u:Int)<1) && !decide (x.a=0))) = !kB x:=by
  have e3:=lt_ 3
  have e2:=lt_ 2
  have e1:=lt_ 1
  unfold kB
  rw [sn,sn,sn,hug]
  show (!okI x.a || !okI x.b || !okI x.c || (decide ((u:Int)<((3:Nat):Int)) && !decide (x.c=0)) || (decide ((u:Int)<((2:Nat):Int)) && !decide (x.b=0)) || (decide ((u:Int)<((1:Nat):Int)) && !decide (x.a=0))) = _
  rw [e3,e2,e1]
  show _ = !(okI x.a && (decide (1≤u) || decide (x.a=0)) && (okI x.b && (decide (2≤u) || decide (x.b=0))) && (okI x.c && (decide (3≤u) || decide (x.c=0))))
  cases okI x.a <;> cases okI x.b <;> cases okI x.c <;> cases decide (1≤u) <;> cases decide (2≤u) <;> cases decide (3≤u) <;> cases decide (x.a=0) <;> cases decide (x.b=0) <;> cases decide (x.c=0) <;> rfl
 rw [hq]
 cases hA:kB x with
 | false =>
  rw [hA] at hhe
  simp only [Bool.false_and] at hhe
  rw [hhe]
  exact ae.pos rfl (.ret _)
 | true =>
 rw [hA,Bool.true_and] at hhe
 refine ae.neg (by simp) ?_
 by_cases h0:x.kind=0
 case neg =>
  rw [if_neg h0] at hhe
  refine ae.pos (show (!decide (x.kind=0))=true by simpa using h0) (.of fun F => ?_)
  have zz:(decide (x.client=0) && (decide (x.serial=0) && (decide (x.tenant=0) && (decide (x.key = []) && (decide (x.method = []) && (decide (x.path = []) && (decide (x.body = []) && true)))))))=ew validD x:=by
   rw [hhe]
   simp [Bool.and_assoc]
  exact congrArg some zz
 rw [if_pos h0] at hhe
 refine ae.neg (show ¬(!decide (x.kind=0))=true by simpa using h0) ?_
 refine ae.bind (ae.wE (c:=decide (x.client=0)) (d:=decide (x.serial=0)) (f:=fun q=>((),q,(ofA x).2.2.2.2,())) fun _ => .ret _) ?_
 refine ae.bind (ae.wE (c:=decide (x.client=0) && decide (x.serial=0)) (d:=okI x.tenant) (f:=fun q=>((),q,(ofA x).2.2.2.2,())) fun _=>ae.bind (.of fun F=>nG F x.tenant) (.ret _)) ?_
 refine ae.bind (ae.wE (c:=decide (x.client=0) && decide (x.serial=0) && okI x.tenant) (d:=dB validD x.key) (f:=fun q=>((),q,(ofA x).2.2.2.2,())) fun _=>ae.bind (tK x.key l1) (.ret _)) ?_
 refine ae.bind (ae.wE (c:=decide (x.client=0) && decide (x.serial=0) && okI x.tenant && dB validD x.key) (d:=dB validD x.method) (f:=fun q=>((),q,(ofA x).2.2.2.2,())) fun _=>ae.bind (tK x.method l2) (.ret _)) ?_
 refine ae.bind (ae.wE (c:=decide (x.client=0) && decide (x.serial=0) && okI x.tenant && dB validD x.key && dB validD x.method) (d:=dB validD x.path) (f:=fun q=>((),q,(ofA x).2.2.2.2,())) fun _=>ae.bind (tK x.path l3) (.ret _)) ?_
 refine ae.bind (ae.wE (c:=decide (x.client=0) && decide (x.serial=0) && okI x.tenant && dB validD x.key && dB validD x.method && dB validD x.path) (d:=dB validD x.body) (f:=fun q=>(q,())) fun _=>ae.bind (tK x.body l4) (.ret _)) (.of fun F => ?_)
 rw [hhe]
 simp only [Bool.and_assoc]
/-! ### the document prints -/
def lx (ps:List By):By:=ps.flatMap fun p=>32 :: p
theorem s7 (p:By) : ∀ ps:List By,eM (p :: ps)=p ++ lx ps
 | []=>by simp [eM,lx]
 | q :: r=>by
  show p ++ 32 :: eM (q :: r) = _
  rw [s7 q r]
  simp [lx]
theorem si (x:di) (u:Nat) (hu:ir x.kind=(u:Int)) (l:List Int) (i:Nat) (n:Int) (hn:l[i]? = some n) (hiu:i<u) (hi:i<10) (ho:okN n) (out:By) (hl:out.length≤10000) :
  ae (fun F=>bO F ((),out,l,(i:Int),ofA x,())) (.inl ((),out ++ 32 :: itoa n,l,((i+1:Nat):Int),ofA x,())):=by
 have h16:=nK ho
 have hw:IntKind.i64.wrap ((i:Int)+1)=((i+1:Nat):Int):=dn i (by omega)
 unfold bO
 refine ae.bind (.of fun F=>rH F x.kind) ?_
 rw [hu]
 refine ae.pos (by rw [decide_eq_true_eq]; simp only; omega) (ae.pos (by rw [decide_eq_true_eq]; simp only [List.length_cons,List.length_nil]; omega) ?_)
 refine ae.bind (.of fun F=>eQ l i n hn) (ae.bind (pE n ho) (ae.pos (by rw [decide_eq_true_eq]; simp only [List.length_append,List.length_cons,List.length_nil]; omega) (.of fun F => ?_)))
 simp only [hw]
 simp
theorem Bv (x:di) (u:Nat) (hu:ir x.kind=(u:Int)) (hu3:u≤3) (a b c:Int) (ha:okN a) (hb:okN b) (hc:okN c) (w:By) (hw:w.length≤100) :
  af bO ((),w,[a,b,c],0,ofA x,()) ((),w ++ lx ((([a,b,c]:List Int).take u).map itoa),ofA x,()):=by
 have la:=nK ha
 have lb:=nK hb
 have lc:=nK hc
 have fin : ∀ (out:By) (i:Nat),i=u→af bO ((),out,[a,b,c],(i:Int),ofA x,()) ((),out,ofA x,()):=by
  intro out i hi
  refine af.fin ?_
  unfold bO
  refine ae.bind (.of fun F=>rH F x.kind) ?_
  rw [hu]
  exact ae.neg (by rw [decide_eq_true_eq]; simp only; omega) (.ret _)
 have s0:=si x u hu [a,b,c] 0 a rfl
 have s1:=si x u hu [a,b,c] 1 b rfl
 have s2:=si x u hu [a,b,c] 2 c rfl
 match u,hu3,hu,fin,s0,s1,s2 with
 | 0,_,_,fin,s0,s1,s2 =>
  have:=fin w 0 rfl
  simpa [lx] using this
 | 1,_,_,fin,s0,s1,s2 =>
  refine af.step (s0 (by omega) (by omega) ha w (by omega)) ?_
  have:=fin (w ++ 32 :: itoa a) 1 rfl
  simpa [lx] using this
 | 2,_,_,fin,s0,s1,s2 =>
  refine af.step (s0 (by omega) (by omega) ha w (by omega)) ?_
  refine af.step (s1 (by omega) (by omega) hb _ (by simp only [List.length_append,List.length_cons]; omega)) ?_
  have:=fin (w ++ 32 :: itoa a ++ 32 :: itoa b) 2 rfl
  simpa [lx] using this
 | 3,_,_,fin,s0,s1,s2 =>
  refine af.step (s0 (by omega) (by omega) ha w (by omega)) ?_
  refine af.step (s1 (by omega) (by omega) hb _ (by simp only [List.length_append,List.length_cons]; omega)) ?_
  refine af.step (s2 (by omega) (by omega) hc _ (by simp only [List.length_append,List.length_cons]; omega)) ?_
  have:=fin (w ++ 32 :: itoa a ++ 32 :: itoa b ++ 32 :: itoa c) 3 rfl
  simpa [lx] using this
theorem vr (x:di) (h:ew validD x=true):ae (fun F=>cw F (ofA x)) (aT x):=by
 obtain ⟨k1,k2⟩:=lP h
 have hpl:=qI x h
 have hh:=h
 unfold ew at hh
 simp only [Bool.and_eq_true,Bool.or_eq_true,decide_eq_true_eq] at hh
 obtain ⟨⟨⟨⟨⟨⟨⟨⟨⟨⟨h0,h14⟩,ha⟩,hb⟩,hc⟩,hc0⟩,hb0⟩,ha0⟩,hcl⟩,hse⟩,hr⟩:=hh
 have hu:ir x.kind=(bn x.kind.toNat:Int):=by
  obtain ⟨k,hk'⟩:=Int.eq_ofNat_of_zero_le h0
  rw [hk',Int.toNat_natCast,kW]
 have wl : ∀ k:Fin 14,(aH.getD k.val []).length≤100:=by decide +kernel
 have hwl:=wl ⟨x.kind.toNat,k1⟩
 simp only at hwl
 unfold cw
 refine ae.bind (.of fun F=>r6 F x.kind) ?_
 rw [if_neg (show ¬(x.kind<0∨14≤x.kind) by omega)]
 refine ae.bind (Bv x _ hu (lV _) x.a x.b x.c (mN ha) (mN hb) (mN hc) _ hwl).run ?_
 have hp:aT x=aH.getD x.kind.toNat [] ++ lx (dW x):=s7 _ _
 rw [hp]
 generalize hW:aH.getD x.kind.toNat [] ++ lx ((([x.a,x.b,x.c]:List Int).take (bn x.kind.toNat)).map itoa)=W
 have hWl:W.length≤4000:=by
  have:=jE x h
  rw [hp] at this
  rw [← hW]
  unfold dW at this
  rw [lx,List.flatMap_append] at this
  simp only [List.length_append] at this ⊢
  unfold lx
  omega
 by_cases hk:x.kind=0
 case neg =>
  refine ae.bind (r:=(W,())) (ae.neg (show ¬decide (x.kind=0)=true by simpa using hk) (.ret _)) (.of fun F => ?_)
  unfold dW
  rw [if_neg hk,List.append_nil,hW]
 rw [if_pos hk] at hr
 simp only [Bool.and_eq_true] at hr
 obtain ⟨⟨⟨⟨r1,r2⟩,r3⟩,r4⟩,r5⟩:=hr
 have q16:=nK (mN r1)
 have qt : ∀ t,dB validD t=true→(quo t).length≤400∧t.length≤400:=fun t ht=>by
  unfold dB at ht
  rw [Bool.and_eq_true,Bool.and_eq_true,decide_eq_true_eq,decide_eq_true_eq] at ht
  exact ⟨ht.2,ht.1.2⟩
 have q2:=qt _ r2
 have q3:=qt _ r3
 have q4:=qt _ r4
 have q5:=qt _ r5
 have e:aH.getD x.kind.toNat [] ++ lx (dW x)=W ++ [32] ++ itoa x.tenant ++ [32] ++ quo x.key ++ [32] ++ quo x.method ++ [32] ++ quo x.path ++ [32] ++ quo x.body:=by
  unfold dW
  rw [if_pos hk,lx,List.flatMap_append, ← hW]
  simp [lx]
 rw [e]
 refine ae.bind (r:=(W ++ [32] ++ itoa x.tenant ++ [32] ++ quo x.key ++ [32] ++ quo x.method ++ [32] ++ quo x.path ++ [32] ++ quo x.body,())) (ae.pos (show decide (x.kind=0)=true by simpa using hk) (ae.bind (r:=(W ++ [32] ++ itoa x.tenant ++ [32] ++ quo x.key ++ [32] ++ quo x.method ++ [32] ++ quo x.path ++ [32] ++ quo x.body,())) ?_ (.ret _))) (.ret _)
 refine ae.pos (by rw [decide_eq_true_eq]; simp only [List.length_append,List.length_cons,List.length_nil]; omega) (ae.bind (pE x.tenant (mN r1)) ?_)
 refine ae.pos (by rw [decide_eq_true_eq]; simp only [List.length_append,List.length_cons,List.length_nil]; omega) (ae.pos (by rw [decide_eq_true_eq]; simp only [List.length_append,List.length_cons,List.length_nil]; omega) (ae.bind (j1 x.key (by omega)) ?_))
 refine ae.pos (by rw [decide_eq_true_eq]; simp only [List.length_append,List.length_cons,List.length_nil]; omega) (ae.pos (by rw [decide_eq_true_eq]; simp only [List.length_append,List.length_cons,List.length_nil]; omega) (ae.bind (j1 x.method (by omega)) ?_))
 refine ae.pos (by rw [decide_eq_true_eq]; simp only [List.length_append,List.length_cons,List.length_nil]; omega) (ae.pos (by rw [decide_eq_true_eq]; simp only [List.length_append,List.length_cons,List.length_nil]; omega) (ae.bind (j1 x.path (by omega)) ?_))
 refine ae.pos (by rw [decide_eq_true_eq]; simp only [List.length_append,List.length_cons,List.length_nil]; omega) (ae.pos (by rw [decide_eq_true_eq]; simp only [List.length_append,List.length_cons,List.length_nil]; omega) (ae.bind (j1 x.body (by omega)) ?_))
 exact ae.pos (by rw [decide_eq_true_eq]; simp only [List.length_append,List.length_cons,List.length_nil]; omega) (.ret _)
end Go.Vm
