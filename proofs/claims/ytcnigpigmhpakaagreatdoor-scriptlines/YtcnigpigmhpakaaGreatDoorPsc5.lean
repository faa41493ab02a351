/- Acts as lines: the program cuts a line, and prints one. No condition but on lengths. -/
import Derived.Test.YtcnigpigmhpakaaGreatDoorPsc4
namespace Go.Vm
open Go.Proofs
open Go.Lib (decodeL decDigits itoa validD)
set_option linter.unusedVariables false
set_option linter.unusedSimpArgs false
/-! ### a line is cut -/
theorem A5 (s:By) (f i:Nat) (hf:f≤i) (hi:i<s.length):(s.drop f).take (i+1 - f)=(s.drop f).take (i - f) ++ [s[i]]:=by
 have h:i - f<(s.drop f).length:=by simp; omega
 have e:(s.drop f)[i - f]=s[i]:=by
  rw [List.getElem_drop]
  congr 1; omega
 have:=List.take_append_getElem h
 rw [e] at this
 rw [this]
 congr 1; omega
theorem FE (F:Nat) (s:By) (f i:Nat) (o sk:Bool) (out:List By) (hf:f≤i) (hi:i<s.length) (hs:s.length≤1000000) (ho:out.length≤i) :
  fQ F (s,(),(f:Int),o,sk,(s.length:Int),(i:Int),out,())=some (.inl (
   if sk=true then (s,(),(f:Int),o,false,(s.length:Int),((i+1:Nat):Int),out,())
   else if o=true∧s[i]=92 then (s,(),(f:Int),o,true,(s.length:Int),((i+1:Nat):Int),out,())
   else if s[i]=34 then (s,(),(f:Int), !o,sk,(s.length:Int),((i+1:Nat):Int),out,())
   else if s[i]=32∧o=false then (s,(),((i+1:Nat):Int),o,sk,(s.length:Int),((i+1:Nat):Int),out ++ [(s.drop f).take (i - f)],())
   else (s,(),(f:Int),o,sk,(s.length:Int),((i+1:Nat):Int),out,()))):=by
 have hx:=uU s i (i:Int) rfl hi
 have hw:IntKind.i64.wrap ((i:Int)+1)=((i+1:Nat):Int):=dn i (by omega)
 have hsub:sub s (f:Int) (i:Int)=some ((s.drop f).take (i - f)):=E4 s f i hf (by omega)
 have c92:((s[i].toNat:Int)=92)=(s[i]=92):=nvC s[i] 92
 have c34:((s[i].toNat:Int)=34)=(s[i]=34):=nvC s[i] 34
 have c32:((s[i].toNat:Int)=32)=(s[i]=32):=nvC s[i] 32
 have hb:(out.length+1) * 16≤140737488355328:=by omega
 unfold fQ
 rw [if_pos (show decide ((i:Int)<(s.length:Int))=true by rw [decide_eq_true_eq]; omega)]
 simp only [hx,Option.bind_some,c92,c34,c32]
 cases sk with
 | true=>simp [hw]
 | false =>
  by_cases h92:s[i]=92
  ·cases o with
   | true=>simp [h92,hw]
   | false=>simp [h92,hw]
  by_cases h34:s[i]=34
  ·cases o with
   | true=>simp [h34,hw]
   | false=>simp [h34,hw]
  by_cases h32:s[i]=32
  ·cases o with
   | true=>simp [h32,hw]
   | false=>simp [h32,hw,hsub,hb]
  ·cases o with
   | true=>simp [h92,h34,h32,hw,c92,c34,c32]
   | false=>simp [h92,h34,h32,hw,c92,c34,c32]
theorem mC (s:By) (hs:s.length≤1000000) : ∀ (n f i:Nat) (o sk:Bool) (out:List By),i+n=s.length→f≤i→out.length≤i →
  ∃ (f':Nat) (out':List By),af fQ (s,(),(f:Int),o,sk,(s.length:Int),(i:Int),out,()) (s,(),(f':Int),out',())∧f'≤s.length∧out'.length≤s.length∧out' ++ [s.drop f']=out ++ ey o sk ((s.drop f).take (i - f)) (s.drop i)
 | 0,f,i,o,sk,out,h,hf,ho=>by
  refine ⟨f,out,af.fin (.of fun F => ?_),by omega,by omega,?_⟩
  ·unfold fQ
   rw [if_neg (show ¬ decide ((i:Int)<(s.length:Int))=true by rw [decide_eq_true_eq]; omega)]
  ·have:i=s.length:=by omega
   subst this
   rw [List.drop_length,List.take_of_length_le (by simp)]
   cases sk <;> rfl
 | n+1,f,i,o,sk,out,h,hf,ho=>by
  have hi:i<s.length:=by omega
  have hst:=fun F=>FE F s f i o sk out hf hi hs ho
  have hd:s.drop i=s[i] :: s.drop (i+1):=List.drop_eq_getElem_cons hi
  have hc:=A5 s f i hf hi
  rw [hd]
  cases sk with
  | true =>
   obtain ⟨f',out',h1,h2,h3,h4⟩:=mC s hs n f (i+1) o false out (by omega) (by omega) (by omega)
   refine ⟨f',out',af.step (.of fun F=>by rw [hst,if_pos rfl]) h1,h2,h3,?_⟩
   rw [h4,hc,ey]
  | false =>
   by_cases h92:o=true∧s[i]=92
   ·obtain ⟨f',out',h1,h2,h3,h4⟩:=mC s hs n f (i+1) o true out (by omega) (by omega) (by omega)
    refine ⟨f',out',af.step (.of fun F=>by rw [hst,if_neg (by simp),if_pos h92]) h1,h2,h3,?_⟩
    rw [h4,hc,ey,if_pos h92]
   by_cases h34:s[i]=34
   ·obtain ⟨f',out',h1,h2,h3,h4⟩:=mC s hs n f (i+1) (!o) false out (by omega) (by omega) (by omega)
    refine ⟨f',out',af.step (.of fun F=>by rw [hst,if_neg (by simp),if_neg h92,if_pos h34]) h1,h2,h3,?_⟩
    rw [h4,hc,ey,if_neg h92,if_pos h34]
   by_cases h32:s[i]=32∧o=false
   ·obtain ⟨f',out',h1,h2,h3,h4⟩:=mC s hs n (i+1) (i+1) o false (out ++ [(s.drop f).take (i - f)]) (by omega) (by omega) (by simp; omega)
    refine ⟨f',out',af.step (.of fun F=>by rw [hst,if_neg (by simp),if_neg h92,if_neg h34,if_pos h32]) h1,h2,h3,?_⟩
    rw [h4,ey,if_neg h92,if_neg h34,if_pos h32,h32.2]
    simp
   ·obtain ⟨f',out',h1,h2,h3,h4⟩:=mC s hs n f (i+1) o false out (by omega) (by omega) (by omega)
    refine ⟨f',out',af.step (.of fun F=>by rw [hst,if_neg (by simp),if_neg h92,if_neg h34,if_neg h32]) h1,h2,h3,?_⟩
    rw [h4,hc,ey,if_neg h92,if_neg h34,if_neg h32]
theorem Jm (s:By) (hs:s.length≤1000000):ae (fun F=>kO F s) (ey false false [] s):=by
 obtain ⟨f',out',h1,h2,h3,h4⟩:=mC s hs s.length 0 0 false false [] (by omega) (by omega) (by simp)
 have hsub:sub s (f':Int) (s.length:Int)=some (s.drop f'):=H3 s f' h2
 unfold kO
 refine ae.bind h1.run (.of fun F => ?_)
 simp only [hsub,Option.bind_some]
 rw [if_pos (by rw [decide_eq_true_eq]; simp; omega),h4]
 simp
/-! ### a line is printed -/
def okU (u:Nat) (i:Nat) (n:Int):Bool:=if i<u then okI n else decide (n=0)
theorem sq (F:Nat) (y:AcT) (u:Nat) (hu:ir y.1=(u:Int)) (a b c:Int) (al:Bool) (i:Nat) (n:Int) (hi:i<3) (hn:([a,b,c]:List Int)[i]? = some n) (hr:I64 n) (out:List By) (ho:out.length≤100) :
  fc F ((),(),al,[a,b,c],3,(i:Int),out,y,())=some (.inl ((),(),al && okU u i n,[a,b,c],3,((i+1:Nat):Int),(if i<u then out ++ [itoa n] else out),y,())):=by
 have hx:idx [a,b,c] (i:Int)=some n:=eQ _ _ _ hn
 have hw:IntKind.i64.wrap ((i:Int)+1)=((i+1:Nat):Int):=dn i (by omega)
 unfold fc
 rw [if_pos (show decide ((i:Int)<3)=true by rw [decide_eq_true_eq]; omega)]
 simp only [hx,Option.bind_some,xF F n hr,tM,hu]
 unfold okU
 by_cases h:i<u
 ·rw [if_pos h,if_pos h,if_pos (show decide ((i:Int)<(u:Int))=true by rw [decide_eq_true_eq]; omega),if_pos (by rw [decide_eq_true_eq]; simp; omega)]
  cases al <;> simp [hw]
 ·rw [if_neg h,if_neg h,if_neg (show ¬ decide ((i:Int)<(u:Int))=true by rw [decide_eq_true_eq]; omega)]
  cases al <;> simp [hw]
theorem ES (y:AcT) (u:Nat) (hu3:u≤3) (hu:ir y.1=(u:Int)) (a b c:Int) (ha:I64 a) (hb:I64 b) (hc:I64 c) (w:By) :
  af fc ((),(),true,[a,b,c],3,0,[w],y,()) ((),(),okU u 0 a && okU u 1 b && okU u 2 c,w :: (([a,b,c]:List Int).take u).map itoa,y,()):=by
 refine af.step (.of fun F=>sq F y u hu a b c true 0 a (by omega) rfl ha [w] (by simp)) ?_
 refine af.step (.of fun F=>sq F y u hu a b c _ 1 b (by omega) rfl hb _ (by split <;> simp)) ?_
 refine af.step (.of fun F=>sq F y u hu a b c _ 2 c (by omega) rfl hc _ (by (repeat' split) <;> simp)) ?_
 refine af.fin (.of fun F => ?_)
 unfold fc
 rw [if_neg (by simp)]
 match u,hu3 with
 | 0,_=>rfl
 | 1,_=>rfl
 | 2,_=>rfl
 | 3,_=>rfl
abbrev RqS:=Int×Int×Int×By×By×By×By×Unit
theorem pH (F0:Nat→Nat) (r:RqS) (k m p b:By) (al:Bool) (i:Nat) (t:By) (hi:i<4) (ht:([k,m,p,b]:List By)[i]? = some t) (hl:t.length≤1000) (out:List By) (ho:out.length≤100) :
  ae (fun F=>fq F ((),al,(),[k,m,p,b],4,(i:Int),out,r,())) (.inl ((),al && dB validD t,(),[k,m,p,b],4,((i+1:Nat):Int),out ++ [mM t],r,())):=by
 have hx:idx [k,m,p,b] (i:Int)=some t:=eQ _ _ _ ht
 have hw:IntKind.i64.wrap ((i:Int)+1)=((i+1:Nat):Int):=dn i (by omega)
 unfold fq
 refine ae.pos (show decide ((i:Int)<4)=true by rw [decide_eq_true_eq]; omega) ?_
 refine ae.bind (.of fun F=>hx) (ae.bind (Ia t hl) ?_)
 refine ae.pos (by rw [decide_eq_true_eq]; simp; omega) ?_
 cases al with
 | true=>exact ae.pos rfl (.of fun F=>by simp only [hw,Bool.true_and])
 | false=>exact ae.neg (by simp) (.of fun F=>by simp only [hw,Bool.false_and])
theorem EF (r:RqS) (k m p b:By) (al:Bool) (hk:k.length≤1000) (hm:m.length≤1000) (hp:p.length≤1000) (hb:b.length≤1000) (out:List By) (ho:out.length≤50) :
  af fq ((),al,(),[k,m,p,b],4,0,out,r,()) ((),al && dB validD k && dB validD m && dB validD p && dB validD b,(),out ++ [mM k,mM m,mM p,mM b],r,()):=by
 refine af.step (pH id r k m p b al 0 k (by omega) rfl hk out (by omega)) ?_
 refine af.step (pH id r k m p b _ 1 m (by omega) rfl hm _ (by simp; omega)) ?_
 refine af.step (pH id r k m p b _ 2 p (by omega) rfl hp _ (by simp; omega)) ?_
 refine af.step (pH id r k m p b _ 3 b (by omega) rfl hb _ (by simp; omega)) ?_
 refine af.fin (.of fun F => ?_)
 unfold fq
 rw [if_neg (by simp)]
 simp
def kB (x:di):Bool:=okU (bn x.kind.toNat) 0 x.a && okU (bn x.kind.toNat) 1 x.b && okU (bn x.kind.toNat) 2 x.c
theorem sn (u i:Nat) (n:Int):okU u i n=(okI n && (decide (i+1≤u) || decide (n=0))):=by
 unfold okU
 by_cases h:i<u
 ·rw [if_pos h,decide_eq_true (show i+1≤u by omega)]; simp
 ·rw [if_neg h,decide_eq_false (show ¬ i+1≤u by omega)]
  by_cases hn:n=0
  ·subst hn; decide
  ·simp [hn]
theorem GV (x:di) (h0:0≤x.kind) (h14:x.kind<14):ew validD x=(kB x && decide (x.client=0) && decide (x.serial=0)
  && (if x.kind=0 then okI x.tenant && dB validD x.key && dB validD x.method && dB validD x.path && dB validD x.body
      else decide (x.tenant=0) && decide (x.key = []) && decide (x.method = []) && decide (x.path = []) && decide (x.body = []))):=by
 unfold ew kB
 rw [sn,sn,sn,decide_eq_true h0,decide_eq_true h14]
 generalize (if x.kind=0 then okI x.tenant && dB validD x.key && dB validD x.method && dB validD x.path && dB validD x.body
    else decide (x.tenant=0) && decide (x.key = []) && decide (x.method = []) && decide (x.path = []) && decide (x.body = []))=R
 generalize okI x.a=A
 generalize okI x.b=B
 generalize okI x.c=C
 simp only [Nat.zero_add,Nat.reduceAdd]
 generalize decide (x.client=0)=D
 generalize decide (x.serial=0)=E
 generalize (decide (3≤bn x.kind.toNat) || decide (x.c=0))=G
 generalize (decide (2≤bn x.kind.toNat) || decide (x.b=0))=H
 generalize (decide (1≤bn x.kind.toNat) || decide (x.a=0))=I
 cases A <;> cases B <;> cases C <;> cases D <;> cases E <;> cases G <;> cases H <;> cases I <;> simp
theorem yl : ∀ ps:List By,Go.Lib.join ps [32]=eM ps
 | []=>rfl
 | [p]=>by simp [Go.Lib.join,eM,List.intercalate,List.intersperse]
 | p :: q :: r=>by
  have ih:=yl (q :: r)
  unfold Go.Lib.join at ih ⊢
  show _=p ++ 32 :: eM (q :: r)
  rw [← ih]
  simp [List.intercalate,List.intersperse]
theorem vU : ∀ (ps:List By) (n:Nat),(∀ p∈ps,p.length≤n)→(eM ps).length≤ps.length * (n+1)
 | [],n,_=>by simp [eM]
 | [p],n,h=>by
  have:=h p List.mem_cons_self
  show p.length ≤ _
  simp; omega
 | p :: q :: r,n,h=>by
  have ih:=vU (q :: r) n fun x hx=>h x (List.mem_cons_of_mem _ hx)
  have:=h p List.mem_cons_self
  show (p ++ 32 :: eM (q :: r)).length ≤ _
  simp only [List.length_append,List.length_cons] at ih ⊢
  rw [Nat.succ_mul]
  omega
theorem qI (x:di) (h:ew validD x=true) : ∀ p∈aH.getD x.kind.toNat [] :: dW x,p.length≤400:=by
 obtain ⟨h1,h2⟩:=lP h
 have wl : ∀ k:Fin 14,(aH.getD k.val []).length≤400:=by decide +kernel
 have hi : ∀ n,okI n=true→(itoa n).length≤400:=fun n hn=>by have:=nK (mN hn); omega
 have ht : ∀ t,dB validD t=true→(quo t).length≤400:=fun t ht=>by
  unfold dB at ht
  rw [Bool.and_eq_true,decide_eq_true_eq] at ht
  exact ht.2
 unfold ew at h
 simp only [Bool.and_eq_true,Bool.or_eq_true,decide_eq_true_eq] at h
 obtain ⟨⟨⟨⟨⟨⟨⟨⟨⟨⟨h0,h14⟩,ha⟩,hb⟩,hc⟩,hc0⟩,hb0⟩,ha0⟩,hcl⟩,hse⟩,hr⟩:=h
 intro p hp
 rcases List.mem_cons.1 hp with rfl | hp
 ·exact wl ⟨x.kind.toNat,h1⟩
 unfold dW at hp
 rcases List.mem_append.1 hp with hp | hp
 ·obtain ⟨n,hn,rfl⟩:=List.mem_map.1 hp
  have:=List.mem_of_mem_take hn
  simp only [List.mem_cons,List.not_mem_nil,or_false] at this
  rcases this with rfl | rfl | rfl
  ·exact hi _ ha
  ·exact hi _ hb
  ·exact hi _ hc
 ·by_cases hk:x.kind=0
  ·rw [if_pos hk] at hp hr
   simp only [Bool.and_eq_true] at hr
   obtain ⟨⟨⟨⟨r1,r2⟩,r3⟩,r4⟩,r5⟩:=hr
   simp only [List.mem_cons,List.not_mem_nil,or_false] at hp
   rcases hp with rfl | rfl | rfl | rfl | rfl
   ·exact hi _ r1
   ·exact ht _ r2
   ·exact ht _ r3
   ·exact ht _ r4
   ·exact ht _ r5
  ·rw [if_neg hk] at hp; cases hp
theorem jE (x:di) (h:ew validD x=true):(aT x).length≤4000:=by
 have h1:=vU _ 400 (qI x h)
 have h2:=oI x
 have:=lV x.kind.toNat
 have h3:(dW x).length≤8:=by rw [h2]; split <;> omega
 unfold aT
 simp only [List.length_cons] at h1
 have:((dW x).length+1) * (400+1)≤9 * 401:=Nat.mul_le_mul_right _ (by omega)
 omega
def Fit (x:di):Prop:=I64 x.a∧I64 x.b∧I64 x.c∧I64 x.tenant∧x.key.length≤1000∧x.method.length≤1000∧x.path.length≤1000∧x.body.length≤1000
def sE (x:di):By×Int:=if ew validD x=true then (aT x,0) else ([],1)
theorem rD (x:di) (hx:Fit x):ae (fun F=>eS F (ofA x)) (sE x):=by
 obtain ⟨ha,hb,hc,ht,l1,l2,l3,l4⟩:=hx
 unfold eS sE
 refine ae.bind (.of Ay) ?_
 by_cases hk:x.kind<0∨14≤x.kind
 ·have hf:ew validD x=false:=by
   rw [Bool.eq_false_iff]
   intro h
   have:=lP h
   unfold ew at h
   simp only [Bool.and_eq_true,Bool.or_eq_true,decide_eq_true_eq] at h
   omega
  rw [show (if ew validD x=true then (aT x,(0:Int)) else ([],1))=([],1) from if_neg (by rw [hf]; simp)]
  refine ae.bind (ae.orB (c:=decide (x.kind<0)) (d:=decide (14≤x.kind)) (f:=fun q=>((),aH,q,ofA x,())) (.ret _)) ?_
  exact ae.pos (by simpa using hk) (.ret _)
 refine ae.bind (ae.orB (c:=decide (x.kind<0)) (d:=decide (14≤x.kind)) (f:=fun q=>((),aH,q,ofA x,())) (.ret _)) ?_
 refine ae.neg (by simpa using hk) ?_
 obtain ⟨k,hk'⟩:=Int.eq_ofNat_of_zero_le (show 0≤x.kind by omega)
 have hkn:k<14:=by omega
 have hx0:idx aH (x.kind)=some (aH.getD x.kind.toNat []):=by
  rw [hk',Int.toNat_natCast,uU aH k (k:Int) rfl (by rw [mJ]; omega),List.getD_eq_getElem?_getD,List.getElem?_eq_getElem (by rw [mJ]; omega)]
  rfl
 have hu:ir x.kind=(bn x.kind.toNat:Int):=by rw [hk',Int.toNat_natCast,kW]
 have hu3:=lV x.kind.toNat
 refine ae.bind (m:=fun F=>idx aH (ofA x).1) (.of fun F=>hx0) ?_
 have hl:=ES (ofA x) (bn x.kind.toNat) hu3 hu x.a x.b x.c ha hb hc (aH.getD x.kind.toNat [])
 refine ae.bind hl.run ?_
 show ae (fun F=>Option.bind (if decide (x.kind=0)=true then _ else _) _) _
 have hhe:=GV x (by omega) (by omega)
 by_cases h0:x.kind=0
 ·rw [if_pos h0] at hhe
  have tl:dW x=(([x.a,x.b,x.c]:List Int).take (bn x.kind.toNat)).map itoa ++ [itoa x.tenant,quo x.key,quo x.method,quo x.path,quo x.body]:=by unfold dW; rw [if_pos h0]
  have tk:((([x.a,x.b,x.c]:List Int).take (bn x.kind.toNat)).map itoa).length≤3:=by simp; omega
  refine ae.bind (r:=((),kB x && okI x.tenant && dB validD x.key && dB validD x.method && dB validD x.path && dB validD x.body,(),(aH.getD x.kind.toNat [] :: (([x.a,x.b,x.c]:List Int).take (bn x.kind.toNat)).map itoa ++ [itoa x.tenant]) ++ [mM x.key,mM x.method,mM x.path,mM x.body],(x.client,x.serial,0,[],[],[],[],()),())) ?_ ?_
  ·refine ae.pos (decide_eq_true h0) (ae.bind (.of fun F=>xF F x.tenant ht) ?_)
   refine ae.bind (r:=((),(),kB x && okI x.tenant,aH.getD x.kind.toNat [] :: (([x.a,x.b,x.c]:List Int).take (bn x.kind.toNat)).map itoa ++ [itoa x.tenant],(ofA x).2.2.2.2,())) ?_ ?_
   ·refine ae.pos (by rw [decide_eq_true_eq]; simp only [List.length_cons,List.length_nil] at tk ⊢; omega) ?_
    show ae (fun F=>if kB x=true then _ else _) _
    cases kB x with
    | true=>exact ae.pos rfl (.ret _)
    | false=>exact ae.neg (by simp) (.ret _)
   ·have h4:=EF (x.client,x.serial,x.tenant,x.key,x.method,x.path,x.body,()) x.key x.method x.path x.body (kB x && okI x.tenant) l1 l2 l3 l4 (aH.getD x.kind.toNat [] :: (([x.a,x.b,x.c]:List Int).take (bn x.kind.toNat)).map itoa ++ [itoa x.tenant]) (by simp at tk ⊢; omega)
    exact ae.bind h4.run (.ret _)
  ·refine ae.bind (ae.orB (c := !(kB x && okI x.tenant && dB validD x.key && dB validD x.method && dB validD x.path && dB validD x.body)) (d := !(decide (x.client=0) && decide (x.serial=0))) (f:=fun q=>((),q,(aH.getD x.kind.toNat [] :: (([x.a,x.b,x.c]:List Int).take (bn x.kind.toNat)).map itoa ++ [itoa x.tenant]) ++ [mM x.key,mM x.method,mM x.path,mM x.body],())) (.of fun F=>by simp)) ?_
   have hq:(!(kB x && okI x.tenant && dB validD x.key && dB validD x.method && dB validD x.path && dB validD x.body) || !(decide (x.client=0) && decide (x.serial=0))) = !ew validD x:=by
    rw [hhe]
    cases kB x <;> cases okI x.tenant <;> cases dB validD x.key <;> cases dB validD x.method <;> cases dB validD x.path <;> cases dB validD x.body <;> cases decide (x.client=0) <;> cases decide (x.serial=0) <;> rfl
   rw [hq]
   cases hh:ew validD x with
   | false=>exact ae.pos rfl (.of fun F=>by simp)
   | true =>
    refine ae.neg (by simp) ?_
    have hh2:=hh
    rw [hhe] at hh2
    simp only [Bool.and_eq_true] at hh2
    obtain ⟨_,⟨⟨⟨_,r2⟩,r3⟩,r4⟩,r5⟩:=hh2
    have e:(aH.getD x.kind.toNat [] :: (([x.a,x.b,x.c]:List Int).take (bn x.kind.toNat)).map itoa ++ [itoa x.tenant]) ++ [mM x.key,mM x.method,mM x.path,mM x.body]=aH.getD x.kind.toNat [] :: dW x:=by
     rw [tl,tV r2,tV r3,tV r4,tV r5]
     simp
    have hpl:=jE x hh
    refine ae.bind (r:=aT x) (.of fun F => ?_) (.of fun F=>by simp)
    show fE F (_,[32]) = _
    rw [e]
    unfold fE A7
    simp only [yl]
    have h9:(aH.getD x.kind.toNat [] :: dW x).length≤140737488355328:=by
     rw [List.length_cons,oI]
     have:(if x.kind=0 then 5 else 0)≤5:=by split <;> omega
     omega
    rw [if_pos (decide_eq_true h9),if_pos (by rw [decide_eq_true_eq]; show (aT x).length ≤ _; omega)]
    rfl
 ·rw [if_neg h0] at hhe
  have tl:dW x=(([x.a,x.b,x.c]:List Int).take (bn x.kind.toNat)).map itoa:=by unfold dW; rw [if_neg h0,List.append_nil]
  refine ae.bind (r:=((),kB x,(),aH.getD x.kind.toNat [] :: dW x,(ofA x).2.2.2.2,())) ?_ ?_
  ·rw [tl]
   exact ae.neg (by simpa using h0) (.ret _)
  ·have zz:(decide (x.client=0) && (decide (x.serial=0) && (decide (x.tenant=0) && (decide (x.key = []) && (decide (x.method = []) && (decide (x.path = []) && (decide (x.body = []) && true)))))))=(decide (x.client=0) && decide (x.serial=0) && (decide (x.tenant=0) && decide (x.key = []) && decide (x.method = []) && decide (x.path = []) && decide (x.body = []))):=by
    simp [Bool.and_assoc]
   refine ae.bind (ae.orB (c := !kB x) (d := !(decide (x.client=0) && decide (x.serial=0) && (decide (x.tenant=0) && decide (x.key = []) && decide (x.method = []) && decide (x.path = []) && decide (x.body = [])))) (f:=fun q=>((),q,aH.getD x.kind.toNat [] :: dW x,())) (.of fun F=>congrArg (fun b=>some ((), !b,aH.getD x.kind.toNat [] :: dW x,())) zz)) ?_
   have hq:(!kB x || !(decide (x.client=0) && decide (x.serial=0) && (decide (x.tenant=0) && decide (x.key = []) && decide (x.method = []) && decide (x.path = []) && decide (x.body = [])))) = !ew validD x:=by
    rw [hhe,Bool.and_assoc,Bool.and_assoc]
    simp only [Bool.not_and]
    simp only [Bool.or_assoc]
   rw [hq]
   cases hh:ew validD x with
   | false=>exact ae.pos rfl (.of fun F=>by simp)
   | true =>
    refine ae.neg (by simp) ?_
    have hpl:=jE x hh
    refine ae.bind (r:=aT x) (.of fun F => ?_) (.of fun F=>by simp)
    show fE F (aH.getD x.kind.toNat [] :: dW x,[32]) = _
    unfold fE A7
    simp only [yl]
    have h9:(aH.getD x.kind.toNat [] :: dW x).length≤140737488355328:=by
     rw [List.length_cons,oI]
     have:(if x.kind=0 then 5 else 0)≤5:=by split <;> omega
     omega
    rw [if_pos (decide_eq_true h9),if_pos (by rw [decide_eq_true_eq]; show (aT x).length ≤ _; omega)]
    rfl
end Go.Vm
