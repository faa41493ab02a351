import Derived.Test.YtihpjgcbmipdbaaGreatDoorPj14
import Derived.Test.YtihpjgcbmipdbaaGreatDoorFr9v
set_option linter.unusedVariables false
set_option linter.unusedSimpArgs false
namespace Go.Vm
open Go.Lib (decodeL decodeN decodeL_N decode_N decodeN_shape decodeL_le decDigits itoa)
abbrev C2:By:=[48,49,50,51,52,53,54,55,56,57,97,98,99,100,101,102]
theorem S4:∀ c:Fin 32,sub C2 (IntKind.u8.wrap (((c.val:Nat):Int).tdiv 16)) (IntKind.u8.wrap (IntKind.u8.wrap (((c.val:Nat):Int).tdiv 16)+1))=some [HC (c.val / 16)]/\sub C2 (((c.val:Nat):Int).tmod 16) (IntKind.u8.wrap (((c.val:Nat):Int).tmod 16+1))=some [HC (c.val % 16)]:=by decide +kernel
theorem Hy (F:Nat) (t out:By) (i:Nat) (c:UInt8) (hc:t[i]? = some c) (ht:t.length<=1000000) (ho:out.length<=10000000) :
  dB F (t,C2,out,(i:Int),())=some (.inl (t,C2,out++u9 c,((i+1:Nat):Int),())):=by
 have hi:i<t.length:=by
  rcases Nat.lt_or_ge i t.length with h | h
  ·exact h
  ·rw[List.getElem?_eq_none h] at hc; cases hc
 have h0:(i:Int)<(t.length:Int):=by omega
 have hx:=bU t i c hc;have hw:IntKind.i64.wrap ((i:Int)+1)=((i+1:Nat):Int):=by rw[wrap64 _ (by omega) (by omega)]; omega
 have hs:sub t (i:Int) ((i+1:Nat):Int)=some [c]:=by
  rw[jM t _ _ (by omega) (by omega)];have:t.drop i=c::t.drop (i+1):=by
   rw[ado hi];congr 1;rw[adl hi] at hc;exact Option.some.inj hc
  rw[this,show i+1-i=1 by omega];rfl
 have n34:=nvB c 34; have n92:=nvB c 92; have n8:=nvB c 8; have n9:=nvB c 9; have n10:=nvB c 10; have n12:=nvB c 12; have n13:=nvB c 13;rw[show ((34:UInt8).toNat:Int)=34 from rfl] at n34;rw[show ((92:UInt8).toNat:Int)=92 from rfl] at n92;rw[show ((8:UInt8).toNat:Int)=8 from rfl] at n8;rw[show ((9:UInt8).toNat:Int)=9 from rfl] at n9;rw[show ((10:UInt8).toNat:Int)=10 from rfl] at n10;rw[show ((12:UInt8).toNat:Int)=12 from rfl] at n12;rw[show ((13:UInt8).toNat:Int)=13 from rfl] at n13;have big:∀ m:Nat,m<=100->decide (out.length+m<=9223372036854775807)=true:=fun m hm=>by rw[ac9]; omega
 unfold dB;rw[if_pos (by simpa using h0)];simp only[hx,ada,n34,n92];by_cases c1:c=34\/c=92
 ·have e1:(if decide (c=34)=false then some (t,C2,out,(i:Int),(c.toNat:Int),decide (c=92),()) else some (t,C2,out,(i:Int),(c.toNat:Int),true,()):Option (By×By×By×Int×Int×Bool×Unit))=some (t,C2,out,(i:Int),(c.toNat:Int),true,()):=by
   by_cases h:c=34
   ·rw[adg h]; rfl
   ·rw[adh h,adg (c1.resolve_left h)]; rfl
  rw[e1,ada];simp only[hw,hs,ada,if_true];rw[if_pos (by rw[ac9]; simp only[adf,adb,List.length_nil]; omega),if_pos (by rw[ac9]; simp only[adf,adb,List.length_nil]; omega),ada];simp only[hw];unfold u9;rw[if_pos c1,List.append_assoc];rfl
 have c34:¬ c=34:=fun h=>c1 (.inl h)
 have c92:¬ c=92:=fun h=>c1 (.inr h)
 rw[adh c34,adh c92,if_pos rfl,ada];simp only[ade,if_false,n8,n9,n10,n12,n13,hw];unfold u9;rw[if_neg c1];have fin:∀ (w z:By),w.length<=10->z=w->(if decide (out.length+w.length<=9223372036854775807)=true then some (t,C2,out++w,(i:Int),()) else none:Option (By×By×By×Int×Unit)).bind (fun v7=>some (Sum.inl (v7.1,v7.2.1,v7.2.2.1,IntKind.i64.wrap (v7.2.2.2.1+1),())))=some (Sum.inl (t,C2,out++z,((i+1:Nat):Int),()):(By×By×By×Int×Unit) ⊕ (By×Unit)):=by
  intro w z YK hz;rw[if_pos (big _ (by omega)),ada,hz];simp only[hw]
 by_cases c8:c=8
 ·rw[if_pos (adg c8),if_pos c8]; exact fin [92,98] _ (by decide) rfl
 rw[if_neg (by simpa using c8),if_neg c8];by_cases c9:c=9
 ·rw[if_pos (adg c9),if_pos c9]; exact fin [92,116] _ (by decide) rfl
 rw[if_neg (by simpa using c9),if_neg c9];by_cases c10:c=10
 ·rw[if_pos (adg c10),if_pos c10]; exact fin [92,110] _ (by decide) rfl
 rw[if_neg (by simpa using c10),if_neg c10];by_cases c12:c=12
 ·rw[if_pos (adg c12),if_pos c12]; exact fin [92,102] _ (by decide) rfl
 rw[if_neg (by simpa using c12),if_neg c12];by_cases c13:c=13
 ·rw[if_pos (adg c13),if_pos c13]; exact fin [92,114] _ (by decide) rfl
 rw[if_neg (by simpa using c13),if_neg c13];by_cases c32:c.toNat<32
 ·have c32':(c.toNat:Int)<32:=by omega
  rw[if_pos (adg c32'),if_pos c32];obtain ⟨x1,x2⟩:=S4 ⟨c.toNat,c32⟩;simp only at x1 x2;rw[if_pos (by rw[ac9]; simp only[adf,adb,List.length_nil]; omega),x1,ada,if_pos (by rw[ac9]; simp only[adf,adb,List.length_nil]; omega),x2,ada,if_pos (by rw[ac9]; simp only[adf,adb,List.length_nil]; omega),ada];simp only[hw,List.append_assoc];rfl
 ·have c32':¬ (c.toNat:Int)<32:=by omega
  rw[if_neg (by simpa using c32'),if_neg c32,hs,ada];exact fin [c] _ (by simp) rfl
theorem zh (t:By) (ht:t.length<=1000000):∀ (n i:Nat) (out:By),i+n=t.length->out.length+6*n<=10000000->ag dB (t,C2,out,(i:Int),()) (out++kQ (t.drop i),())
 | 0,i,out,h,ho=>by
  refine ag.fin (.of fun F => ?_);unfold dB;rw[if_neg (by simp; omega),List.drop_eq_nil_of_le (by omega)];show _=some (Sum.inr (out++[],()));rw[List.append_nil]
 | n+1,i,out,h,ho=>by
  have hi:i<t.length:=by omega
  have hd:=ado hi;have hl:=A1 t[i];refine ag.step (.of fun F=>Hy F t out i t[i] (adl hi) ht (by omega)) ?_;have:=zh t ht n (i+1) (out++u9 t[i]) (by omega) (by rw[adf]; omega);rw[hd];rw[List.append_assoc] at this;exact this
theorem SQ (t:By):(kQ t).length<=6*t.length:=by
 induction t with
 | nil=>exact Nat.le_refl _
 | cons c t ih =>
  have:=A1 c;show (u9 c++kQ t).length <= _;rw[adf,adb];omega
theorem Cv (t:By) (ht:t.length<=1000000):ae (fun F=>bB F t) (quo t):=by
 unfold bB;have h:=zh t ht t.length 0 [34] (by omega) (by simp; omega);refine ae.bind h.run ?_;have:=SQ t;refine ae.pos (by rw[ac9]; simp; omega) (.of fun F => ?_);rfl
theorem LF (s q:By) (c:UInt8) (h:c::q <:+ s) (hs:s.length<=1000) (k:Int) (hk:0<=k/\k<=100):ae (fun F=>aV F (st s (c::q) k 0)) ((),st s (skp q) (k+1) (if 8<k+1 then 10 else 0)):=by
 have hw:IntKind.i64.wrap (k+1)=k+1:=wrap64 _ (by omega) (by omega);unfold aV;refine ae.bind (r:=(((),st s (c::q) (k+1) (if 8<k+1 then 10 else 0),()):Unit×RS×Unit)) ?_ ?_
 ·refine .of fun F => ?_
  unfold st;simp only[hw];by_cases h8:8<k+1
  ·rw[if_pos (adg h8),if_pos h8,bad_eq,if_pos rfl]; rfl
  ·rw[if_neg (by simpa using h8),if_neg h8]
 ·have hb:=ki s q (cQ h) hs (k+1) (if 8<k+1 then 10 else 0)
  have hn:=el h hs;refine ae.bind (r:=((),st s (skp q) (k+1) (if 8<k+1 then 10 else 0))) ?_ (.ret _);unfold st at hb ⊢
  simp only[hn];exact hb
theorem lA (s r:By) (h:r <:+ s) (F:Nat) (k e:Int) (z:UInt8):al F (st s (skp r) k e,(z.toNat:Int))=some (isH (skp r) e z,st s (skp r) k e):=Ue F s (skp r) ((aw r).trans h) k e z
theorem Hs (s r q:By) (h:r <:+ s) (hs:s.length<=1000) (k:Int) (z:UInt8) (hr:skp r=44::q):ae (fun F=>ax F (st s r k 0,(z.toNat:Int))) (true,st s q k 0):=by
 have h1:=fun F=>lA s r h F k 0 44
 have hq:44::q <:+ s:=hr ▸ (aw r).trans h;have hb:=ki s r h hs k 0;rw[hr] at hb;simp only[hr,j9,decide_true] at h1;unfold ax;refine ae.bind hb ?_;refine ae.bind (.of h1) ?_;refine ae.pos rfl (.of fun F => ?_);unfold st;simp only[el hq hs]
theorem Mb (s r q:By) (h:r <:+ s) (hs:s.length<=1000) (k:Int) (hk:0<=k/\k<=100) (z:UInt8) (hz:z≠44) (hr:skp r=z::q):ae (fun F=>ax F (st s r k 0,(z.toNat:Int))) (false,st s q (k-1) 0):=by
 have h1:=fun F=>lA s r h F k 0 44
 have h2:=fun F=>lA s r h F k 0 z
 have hq:z::q <:+ s:=hr ▸ (aw r).trans h;have hb:=ki s r h hs k 0;rw[hr] at hb;simp only[hr,j9,adh hz] at h1;simp only[hr,j9,decide_true] at h2;have hw:IntKind.i64.wrap (k-1)=k-1:=wrap64 _ (by omega) (by omega);unfold ax;refine ae.bind hb ?_;refine ae.bind (.of h1) ?_;refine ae.neg adj ?_;refine ae.bind (.of h2) ?_;refine ae.pos rfl (.of fun F => ?_);unfold st;simp only[el hq hs,hw]
theorem BQ (s r:By) (h:r <:+ s) (hs:s.length<=1000) (k e:Int) (z:UInt8) (h1:isH (skp r) e 44=false) (h2:isH (skp r) e z=false):ae (fun F=>ax F (st s r k e,(z.toNat:Int))) (false,st s (skp r) k (if e=0 then 3 else e)):=by
 have i1:=fun F=>lA s r h F k e 44
 have i2:=fun F=>lA s r h F k e z
 have hb:=ki s r h hs k e;simp only[h1] at i1;simp only[h2] at i2;unfold ax;refine ae.bind hb ?_;refine ae.bind (.of i1) ?_;refine ae.neg adj ?_;refine ae.bind (.of i2) ?_;refine ae.neg adj (.of fun F => ?_);unfold st;simp only[bad_eq,ada]
theorem tO {r:By} {z:UInt8} (h:∀ q,r=z::q->False) (e:Int):isH r e z=false:=by
 unfold isH;cases r with
 | nil=>cases decide (e=0) <;> rfl
 | cons c q =>
  have:¬ c=z:=by rintro rfl; exact h q rfl
  have h2:((c::q).head? == some z)=false:=by simpa using this
  rw[h2,Bool.and_false]
theorem DF (s:By) (e:Nat) (x:RS) (hx:Bad s e x) (hs:s.length<=1000) (z:UInt8):∃ x',ae (fun F=>ax F (x,(z.toNat:Int))) (false,x')/\Bad s e x':=by
 obtain ⟨he,r,k,rfl,hr,hk⟩:=hx;have I7:¬ (e:Int)=0:=by omega
 have h:=BQ s r hr hs k e z (uG _ _ I7 _) (uG _ _ I7 _);rw[if_neg I7] at h;exact ⟨_,h,he,skp r,k,rfl,(aw r).trans hr,hk⟩
def lj:List By->By->Nat
 | [],_=>0
 | y::l,x=>if ltB y x=true then lj l x+1 else 0
theorem LX:∀ (l:List By) (x:By),lj l x<=l.length
 | [],_=>Nat.le_refl _
 | y::l,x=>by
  unfold lj;split
  ·have:=LX l x; rw[adb]; omega
  ·omega
theorem CC (l:List By) (x:By) (hl:l.length<=1000000):∀ (n i:Nat),i+n=l.length->ag dC (l,x,(i:Int),()) (if lj (l.drop i) x=(l.drop i).length then .inl (l,()) else .inr (((i+lj (l.drop i) x:Nat):Int),decide ((l.drop i)[lj (l.drop i) x]? = some x),()))
 | 0,i,h=>by
  refine ag.fin (.of fun F => ?_);unfold dC;rw[if_neg (by simp; omega),List.drop_eq_nil_of_le (by omega)];rfl
 | n+1,i,h=>by
  have hi:i<l.length:=by omega
  have h0:(i:Int)<(l.length:Int):=by omega
  have hx:idx l (i:Int)=some l[i]:=bU _ _ _ (adl hi);rw[ado hi];by_cases hc:ltB l[i] x=true
  ·have hp:lj (l[i]::l.drop (i+1)) x=lj (l.drop (i+1)) x+1:=by
    show (if ltB l[i] x=true then _ else _) = _;rw[if_pos hc]
   rw[hp];refine ag.step (x':=(l,x,((i+1:Nat):Int),())) (.of fun F => ?_) ?_
   ·unfold dC
    rw[if_pos (by simpa using h0)];simp only[hx,ada];have yh:Op.bytesLess l[i] x=true:=hc;rw[yh,if_neg (by decide),wrap64 _ (by omega) (by omega)];rfl
   ·have:=CC l x hl n (i+1) (by omega)
    simp only[adb,List.getElem?_cons_succ];rw[show i+(lj (l.drop (i+1)) x+1)=i+1+lj (l.drop (i+1)) x by omega];by_cases he:lj (l.drop (i+1)) x=(l.drop (i+1)).length
    ·rw[if_pos he] at this
     rw[if_pos (by omega)];exact this
    ·rw[if_neg he] at this
     rw[if_neg (by omega)];exact this
  ·have hp:lj (l[i]::l.drop (i+1)) x=0:=by
    show (if ltB l[i] x=true then _ else _) = _;rw[if_neg hc]
   rw[hp,if_neg (by rw[adb]; omega)];refine ag.fin (.of fun F => ?_);unfold dC;rw[if_pos (by simpa using h0)];simp only[hx,ada];have yh:Op.bytesLess l[i] x=false:=by simpa using hc
   rw[yh,if_pos (by decide),List.getElem?_cons_zero,Nat.add_zero];simp
theorem Tu (l:List By) (x:By) (hl:l.length<=1000000):ae (fun F=>dj F (l,x)) ((lj l x:Int),decide (l[lj l x]? = some x)):=by
 have h:=CC l x hl l.length 0 (by omega);rw[List.drop_zero] at h;unfold dj;refine ae.bind h.run ?_;by_cases he:lj l x=l.length
 ·rw[if_pos he]
  refine .of fun F => ?_
  rw[aA,he,List.getElem?_eq_none (Nat.le_refl _)];rfl
 ·rw[if_neg he]
  refine .of fun F => ?_
  rw[bd,Nat.zero_add]
def GD {α:Type} (l:List α) (p:Nat) (x:α):List α:=l.take p++[x]++l.drop p
theorem Up (F:Nat) (l:List By) (p:Nat) (x:By) (hl:l.length<=1000000) (hp:p<=l.length):cj F (l,(p:Int),x)=some (GD l p x):=by
 unfold cj;have h1:sub l 0 (p:Int)=some (l.take p):=by
  have:=jM l 0 p (by omega) hp;rw[List.drop_zero,Nat.sub_zero] at this;exact this
 have h2:sub l (p:Int) (l.length:Int)=some (l.drop p):=hZ l p hp;simp only[h1,h2,ada];have aH:(l.take p).length<=1000000:=by rw[List.length_take]; omega
 have hld:(l.drop p).length<=1000000:=by rw[List.length_drop]; omega
 rw[if_pos (by rw[ac9]; omega),if_pos (by rw[ac9]; simp only[List.length_singleton]; omega),if_pos (by rw[ac9,adf]; simp only[List.length_singleton]; omega)];rfl
theorem BX {α β:Type} (f:α->β) (l:List α) (p:Nat) (x:α):(GD l p x).map f=GD (l.map f) p (f x):=by unfold GD; simp
theorem BK (m:Me):∀ l:List Me,(∀ x∈l,x.1≠m.1)->GJ m l=GD l (lj (l.map (·.1)) m.1) m
 | [],_=>rfl
 | x::l,h=>by
  have hx:x.1≠m.1:=h x (adn ..);have ih:=BK m l (fun y hy=>h y (adm _ hy));unfold GJ;rw[List.map_cons];unfold lj;by_cases hc:ltB x.1 m.1=true
  ·rw[if_pos hc,if_neg (by rw[I0 _ _ hc]; decide),ih]
   unfold GD;rw[List.take_succ_cons,List.drop_succ_cons];rfl
  ·have:ltB m.1 x.1=true:=by
    cases e:ltB m.1 x.1 with
    | true=>rfl
    | false=>exact absurd (uE _ _ (by simpa using hc) e) hx
   rw[if_neg hc,if_pos this];rfl
theorem DZ (x:By):∀ l:List Me,Ris l->decide ((l.map (·.1))[lj (l.map (·.1)) x]? = some x)=l.any (fun m=>m.1 == x)
 | [],_=>by rfl
 | m::l,h=>by
  obtain ⟨h1,h2⟩:=List.pairwise_cons.1 h;have ih:=DZ x l h2;rw[List.map_cons,List.any_cons];unfold lj;by_cases hc:ltB m.1 x=true
  ·rw[if_pos hc,List.getElem?_cons_succ,ih]
   have:(m.1 == x)=false:=by
    rw[beq_eq_false_iff_ne];intro hh;rw[hh,uN] at hc;cases hc
   rw[this,Bool.false_or]
  ·rw[if_neg hc,List.getElem?_cons_zero]
   by_cases he:m.1=x
   ·rw[he]; simp
   ·have hf:(m.1 == x)=false:=beq_eq_false_iff_ne.2 he
    have aH:ltB x m.1=true:=by
     cases e:ltB x m.1 with
     | true=>rfl
     | false=>exact absurd (uE _ _ (by simpa using hc) e) he
    have hl:l.any (fun m=>m.1 == x)=false:=by
     rw[List.any_eq_false];intro y hy;have:=ot _ _ _ aH (h1 y hy);intro hh;rw[beq_iff_eq.1 hh,uN] at this;cases this
    rw[hf,hl];simp[he]
end Go.Vm
namespace Go.Vm
open Go.Lib (decodeL decDigits itoa)
def pI:JV->Int
 | .nil=>0
 | .null=>1
 | .bool _=>2
 | .int _=>3
 | .str _=>4
 | .list _=>5
 | .obj _=>6
def y8:JV->By
 | .str t=>t
 | _ => []
def Bi:JV->Int
 | .int n=>n
 | _=>0
def Cw:JV->List By
 | .obj l=>l.map (·.1)
 | _ => []
def S9 (d:Nat) (v:JV):By:=match d with
 | 0 => []
 | d+1=>cg d v
def FV (d:Nat):JV->List By
 | .list l=>l.map (S9 d)
 | .obj l=>l.map fun m=>S9 d m.2.1
 | _ => []
def qj (d:Nat) (v:JV):V9:=(pI v,cg d v,y8 v,Bi v,Cw v,FV d v,())
def RV9 (s:By) (d:Nat) (x:Except Nat (JV×By)) (y:V9×RS):Prop:=match x with
 | .ok (v,q)=>y=(qj d v,st s q (8-(d:Int)) 0)
 | .error e=>Bad s e y.2/\y.1.2.1.length<=9000*(d+1)
def VT9 (s:By) (d:Nat) (R:Nat->RS->Option (V9×RS)):Prop:=∀ r,r <:+ s -> ∃ y,ae (fun F=>R F (st s r (8-(d:Int)) 0)) y/\RV9 s d (jF d r) y
abbrev LS9:=Unit×Unit×Unit×RS×V9×(Int×By×By×Int×List By×Unit×Unit)×List By×Unit
def lS (its:List By) (form:By) (x:RS):LS9:=((),(),(),x,z9,(5,form,[],0,[],(),()),its,())
def yC (l:List By):Nat:=(l.map fun b=>b.length+1).sum
theorem DP (l:List By) (b:By):yC (l++[b])=yC l+(b.length+1):=by unfold yC; simp
theorem G8 (l:List By):l.length<=yC l:=by
 unfold yC;induction l with
 | nil=>exact Nat.le_refl _
 | cons b l ih=>simp only[List.map_cons,List.sum_cons,adb]; omega
theorem yD:∀ l:List By,(eF l).length<=yC l
 | []=>Nat.le_refl _
 | [b]=>by unfold eF yC; simp
 | b::c::l=>by
  have ih:=yD (c::l);unfold eF;unfold yC at ih ⊢
  rw[List.map_cons,List.sum_cons,adf,adb];omega
def RL9 (s:By) (d:Nat) (its:List By) (x:Except Nat (List JV×By)) (y:LS9):Prop:=∃ its' x',y=lS its' [] x'/\yC its'<=2000+9000*(d+1)/\match x with
 | .ok (l,q)=>its'=its++l.map (cg d)/\x'=st s q (8-(d:Int)-1) 0
 | .error e=>Bad s e x'
theorem BI (s:By) (hs:s.length<=1000) (d:Nat) (hd:d<=8) (R:Nat->RS->Option (V9×RS)) (hR:VT9 s d R):∀ (n:Nat) (r:By) (its:List By),r <:+ s->r.length+1<=n->yC its+r.length<=1001 ->
  ∃ y,ag (fun F=>cm F (R F)) (lS its [] (st s r (8-(d:Int)) 0)) y/\RL9 s d its (ve (jF d) n r) y
 | 0,r,its,hr,hn,ha=>by omega
 | n+1,r,its,hr,hn,ha=>by
  obtain ⟨⟨v,x⟩,h1,h2⟩:=hR r hr;have ES:=G8 its;have hlen:decide ((its.length+1)*16<=140737488355328)=true:=by rw[ac9]; omega
  have cO:∀ (b:Bool) (x':RS),ae (fun F=>ax F (x,((93:UInt8).toNat:Int))) (b,x')->ae (fun F=>cm F (R F) (lS its [] (st s r (8-(d:Int)) 0))) (if (!b)=true then .inr (lS (its++[v.2.1]) [] x') else .inl (lS (its++[v.2.1]) [] x')):=by
   intro b x' dh;unfold cm lS st;refine ae.pos (by rfl) ?_;refine ae.bind (r:=lS (its++[v.2.1]) [] x) ?_ ?_
   ·refine ae.bind h1 ?_
    refine ae.pos (by simpa using hlen) ?_;exact .ret _
   ·refine ae.bind dh ?_
    cases b <;> exact .ret _
  unfold ve;cases hv:jF d r with
  | error e =>
   rw[hv] at h2;obtain ⟨hb,nf⟩:Bad s e x/\v.2.1.length<=9000*(d+1):=h2;obtain ⟨x',h3,h4⟩:=DF s e x hb hs 93;exact ⟨_,ag.fin (cO false x' h3),_,x',rfl,by rw[DP]; omega,h4⟩
  | ok w =>
   obtain ⟨v',r1⟩:=w;rw[hv] at h2;have h2:(v,x)=(qj d v',st s r1 (8-(d:Int)) 0):=h2
   injection h2 with h2 GZ
   subst h2; subst GZ;have YR:(qj d v').2.1=cg d v':=rfl;rw[YR] at cO;obtain ⟨_,o2,o3,o4⟩:=vX d r v' r1 hv;have Dw:=o2.trans hr;have qJ:=fD r1;have aau:=DP its (cg d v');simp only;split
   ·rename_i r' yY
    rw[yY] at qJ;simp only[adb] at qJ;have si:r' <:+ s:=((List.suffix_cons 44 r').trans (yY ▸ aw r1)).trans Dw;obtain ⟨y,i1,its',x',i2,i3,i4⟩:=BI s hs d hd R hR n r' (its++[cg d v']) si (by omega) (by omega);refine ⟨y,ag.step (cO true _ (Hs s r1 r' Dw hs _ 93 yY)) i1,its',x',i2,i3,?_⟩;cases hl:ve (jF d) n r' with
    | error e=>rw[hl] at i4; exact i4
    | ok w =>
     obtain ⟨l,q⟩:=w;rw[hl] at i4;obtain ⟨i4,i5⟩:=i4;refine ⟨?_,i5⟩;rw[i4,List.map_cons,List.append_assoc,List.singleton_append]
   ·rename_i r' WS
    exact ⟨_,ag.fin (cO false _ (Mb s r1 r' Dw hs _ (by omega) 93 (by decide) WS)),_,_,rfl,by omega,rfl,rfl⟩
   ·rename_i WT WU
    have GS:=BQ s r1 Dw hs (8-(d:Int)) 0 93 (tO (fun q h=>WT q h) 0) (tO (fun q h=>WU q h) 0);exact ⟨_,ag.fin (cO false _ GS),_,_,rfl,by omega,by decide,skp r1,_,rfl,(aw r1).trans Dw,by omega,by omega⟩
theorem AV (R:Nat->RS->Option (V9×RS)) (its:List By) (x:RS) (hl:its.length<=1000000):∀ (n i:Nat) (form:By),i+n=its.length->form.length+(iz (fun b:By=>b) i (its.drop i)).length<=1000000 ->
  ag (fun F=>dL F (R F)) ((),(),(),(i:Int),x,z9,(5,form,[],0,[],(),()),its,()) (lS its (form++iz (fun b:By=>b) i (its.drop i)) x)
 | 0,i,form,h,hb=>by
  refine ag.fin (.of fun F => ?_);unfold dL;rw[if_neg (by simp; omega),List.drop_eq_nil_of_le (by omega)];have:iz (fun b:By=>b) i ([]:List By)=[]:=by unfold iz; split <;> rfl
  rw[this,List.append_nil];rfl
 | n+1,i,form,h,hb=>by
  have hi:i<its.length:=by omega
  have hx:idx its (i:Int)=some its[i]:=bU _ _ _ (adl hi);rw[ado hi,qN] at hb ⊢
  rw[adf,adf] at hb;have hw:IntKind.i64.wrap ((i:Int)+1)=((i+1:Nat):Int):=by rw[wrap64 _ (by omega) (by omega)]; omega
  refine ag.step (x':=((),(),(),((i+1:Nat):Int),x,z9,(5,form++(if i=0 then [] else [44])++its[i],[],0,[],(),()),its,())) ?_ ?_
  ·unfold dL
   refine ae.pos (by simpa using hi) ?_;refine ae.bind (r:=(((),(),(),(i:Int),x,z9,(5,form++(if i=0 then [] else [44]),[],0,[],(),()),its,()):Unit×Unit×Unit×Int×RS×V9×(Int×By×By×Int×List By×Unit×Unit)×List By×Unit)) ?_ ?_
   ·by_cases h0:i=0
    ·subst h0
     refine ae.neg (by show ¬ decide ((0:Int)<((0:Nat):Int))=true; decide) ?_;rw[if_pos rfl,List.append_nil];exact .ret _
    ·refine ae.pos (by show decide ((0:Int)<(i:Int))=true; rw[ac9]; omega) ?_
     rw[if_neg h0] at hb ⊢
     exact ae.pos (by rw[ac9]; simp only[List.length_singleton] at hb ⊢; omega) (.ret _)
   ·refine ae.bind (.of fun F=>hx) ?_
    refine ae.pos (by rw[ac9,adf]; omega) (.of fun F => ?_);simp only[hw]
  ·have:=AV R its x hl n (i+1) (form++(if i=0 then [] else [44])++its[i]) (by omega) (by rw[adf,adf]; omega)
   rw[List.append_assoc,List.append_assoc] at this;rw[<-List.append_assoc (if i=0 then ([]:By) else [44])];simpa only[List.append_assoc] using this
theorem SN (s:By) (hs:s.length<=1000) (d:Nat) (hd:d<=8) (R:Nat->RS->Option (V9×RS)) (hR:∀ d',d=d'+1->VT9 s d' R) (q:By) (hq:91::q <:+ s) :
  ∃ y,ae (fun F=>aW F (R F) (st s (91::q) (8-(d:Int)) 0)) y/\RV9 s d (match (match d with | 0=>none | d+1=>some (jF d):Option (By->Except Nat (JV×By))) with
   | none => .error 10
   | some V=>match skp q with
    | 93::r => .ok (.list [],r)
    | r=>match ve V (r.length+1) r with
     | .error e => .error e
     | .ok (l,r) => .ok (.list l,r)) y:=by
 have Je:=cQ hq;have qJ:skp q <:+ s:=(aw q).trans Je;have o9:=LF s q 91 hq hs (8-(d:Int)) (by omega);have WU:=fun e k=>fun F=>lA s q Je F k e 93
 -- behind the first loop
 have ahead:∀ (its:List By) (x x':RS),yC its<=900000->ae (fun F=>aV F (st s (91::q) (8-(d:Int)) 0)) ((),x)->ae (fun F=>al F (x,((93:UInt8).toNat:Int))) (false,x)->ag (fun F=>cm F (R F)) (lS [] [] x) (lS its [] x')->ae (fun F=>aW F (R F) (st s (91::q) (8-(d:Int)) 0)) ((5,91::(eF its++[93]),[],0,[],its,()),x'):=by
  intro its x x' hj h1 h2 h3;have Rx:=yD its;have ES:=G8 its;have Xi:=AV R its x' (by omega) its.length 0 [] (by omega) (by unfold iz; rw[if_pos rfl,List.drop_zero,List.map_id']; simp; omega);rw[List.drop_zero] at Xi;have e0:iz (fun b:By=>b) 0 its=eF its:=by unfold iz; rw[if_pos rfl,List.map_id']
  rw[e0,List.nil_append] at Xi;unfold aW;refine ae.bind h1 ?_;refine ae.bind h2 ?_;refine ae.neg adj ?_;refine ae.bind h3.run ?_;refine ae.bind Xi.run ?_;unfold lS;refine ae.pos (by rw[ac9]; simp only[List.length_singleton]; omega) ?_;refine ae.pos (by rw[ac9,adf]; simp only[List.length_singleton]; omega) (.of fun F=>rfl)
 cases d with
 | zero =>
  rw[if_pos (by decide)] at o9;have h2:=WU 10 (8-((0:Nat):Int)+1);simp only[uG _ (10:Int) (by decide) _] at h2;refine ⟨_,ahead [] _ _ (by decide) o9 (.of h2) (ag.fin (.of fun F=>rfl)),⟨by decide,skp q,8-((0:Nat):Int)+1,rfl,qJ,by decide,by decide⟩,?_⟩;show (2:Nat)<=9000*(0+1)
  decide
 | succ d =>
  rw[if_neg (by omega)] at o9;have e8:(8:Int)-((d+1:Nat):Int)+1=8-(d:Int):=by omega
  rw[e8] at o9;have e9:(8:Int)-(d:Int)-1=8-((d+1:Nat):Int):=by omega
  have h2:=WU 0 (8-(d:Int));simp only;split
  ·rename_i r hr
   rw[hr] at o9 qJ;simp only[hr,j9,decide_true] at h2;refine ⟨((5,[91,93],[],0,[],[],()),st s r (8-((d+1:Nat):Int)) 0),?_,rfl⟩;unfold aW;refine ae.bind o9 ?_;refine ae.bind (.of h2) ?_;refine ae.pos rfl (.of fun F => ?_);unfold st;simp only[el qJ hs];rw[wrap64 _ (by omega) (by omega),e9]
  ·rename_i hr
   simp only[tO (fun q h=>hr q h)] at h2;have UQ:=fw qJ;obtain ⟨y,i1,its,x',rfl,i3,i4⟩:=BI s hs d (by omega) R (hR d rfl) ((skp q).length+1) (skp q) [] qJ (Nat.le_refl _) (by unfold yC; simp; omega);have Rx:=yD its;have hd9:d<=8:=by omega
   have hj9:yC its<=900000:=Nat.le_trans i3 (by clear i3 i4 i1 o9 h2 WU ahead; omega);refine ⟨_,ahead its _ _ hj9 o9 (.of h2) i1,?_⟩;cases hl:ve (jF d) ((skp q).length+1) (skp q) with
   | error e =>
    rw[hl] at i4;refine ⟨i4,?_⟩;simp only[adb,adf,List.length_nil];omega
   | ok w =>
    obtain ⟨l,r⟩:=w;rw[hl] at i4;obtain ⟨rfl,rfl⟩:=i4;rw[e9,List.nil_append];unfold RV9 qj;simp only[pI,y8,Bi,Cw,FV,cg,Bz];rfl
end Go.Vm
