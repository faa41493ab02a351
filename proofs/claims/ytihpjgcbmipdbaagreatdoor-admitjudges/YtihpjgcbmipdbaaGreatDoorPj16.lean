import Derived.Test.YtihpjgcbmipdbaaGreatDoorPj14
import Derived.Test.YtihpjgcbmipdbaaGreatDoorFr9v
set_option linter.unusedVariables false
set_option linter.unusedSimpArgs false
namespace Go.Vm
open Go.Lib (decodeL decodeN decodeL_N decode_N decodeN_shape decodeL_le decDigits itoa)
abbrev Cw:By := [48,49,50,51,52,53,54,55,56,57,97,98,99,100,101,102]
theorem R7 : ∀ c:Fin 32,sub Cw (IntKind.u8.wrap (((c.val:Nat):Int).tdiv 16)) (IntKind.u8.wrap (IntKind.u8.wrap (((c.val:Nat):Int).tdiv 16)+1))=some [wU (c.val / 16)]∧sub Cw (((c.val:Nat):Int).tmod 16) (IntKind.u8.wrap (((c.val:Nat):Int).tmod 16+1))=some [wU (c.val % 16)]:=by decide +kernel
theorem Gz (F:Nat) (t out:By) (i:Nat) (c:UInt8) (hc:t[i]? = some c) (ht:t.length≤1000000) (ho:out.length≤10000000) :
  dq F (t,Cw,out,(i:Int),())=some (.inl (t,Cw,out ++ ta c,((i+1:Nat):Int),())):=by
 have hi:i<t.length:=by
  rcases Nat.lt_or_ge i t.length with h | h
  ·exact h
  ·rw [List.getElem?_eq_none h] at hc; cases hc
 have h0:(i:Int)<(t.length:Int):=by omega
 have hx:=bc t i c hc;have hw:IntKind.i64.wrap ((i:Int)+1)=((i+1:Nat):Int):=by rw [wrap64 _ (by omega) (by omega)]; omega
 have hs:sub t (i:Int) ((i+1:Nat):Int)=some [c]:=by
  rw [j4 t _ _ (by omega) (by omega)];have:t.drop i=c :: t.drop (i+1):=by
   rw [List.drop_eq_getElem_cons hi];congr 1;rw [List.getElem?_eq_getElem hi] at hc;exact Option.some.inj hc
  rw [this,show i+1 - i=1 by omega];rfl
 have n34:=nvB c 34; have n92:=nvB c 92; have n8:=nvB c 8; have n9:=nvB c 9; have n10:=nvB c 10; have n12:=nvB c 12; have n13:=nvB c 13;rw [show ((34:UInt8).toNat:Int)=34 from rfl] at n34;rw [show ((92:UInt8).toNat:Int)=92 from rfl] at n92;rw [show ((8:UInt8).toNat:Int)=8 from rfl] at n8;rw [show ((9:UInt8).toNat:Int)=9 from rfl] at n9;rw [show ((10:UInt8).toNat:Int)=10 from rfl] at n10;rw [show ((12:UInt8).toNat:Int)=12 from rfl] at n12;rw [show ((13:UInt8).toNat:Int)=13 from rfl] at n13;have big : ∀ m:Nat,m≤100→decide (out.length+m≤9223372036854775807)=true:=fun m hm=>by rw [abn]; omega
 unfold dq;rw [if_pos (by simpa using h0)];simp only [hx,abo,n34,n92];by_cases c1:c=34∨c=92
 ·have e1:(if decide (c=34)=false then some (t,Cw,out,(i:Int),(c.toNat:Int),decide (c=92),()) else some (t,Cw,out,(i:Int),(c.toNat:Int),true,()):Option (By×By×By×Int×Int×Bool×Unit))=some (t,Cw,out,(i:Int),(c.toNat:Int),true,()):=by
   by_cases h:c=34
   ·rw [abt h]; rfl
   ·rw [abu h,abt (c1.resolve_left h)]; rfl
  rw [e1,abo];simp only [hw,hs,abo,if_true];rw [if_pos (by rw [abn]; simp only [abr,abp,List.length_nil]; omega),if_pos (by rw [abn]; simp only [abr,abp,List.length_nil]; omega),abo];simp only [hw];unfold ta;rw [if_pos c1,List.append_assoc];rfl
 have c34 : ¬ c=34:=fun h=>c1 (.inl h)
 have c92 : ¬ c=92:=fun h=>c1 (.inr h)
 rw [abu c34,abu c92,if_pos rfl,abo];simp only [abq,if_false,n8,n9,n10,n12,n13,hw];unfold ta;rw [if_neg c1];have fin : ∀ (w z:By),w.length≤10→z=w→(if decide (out.length+w.length≤9223372036854775807)=true then some (t,Cw,out ++ w,(i:Int),()) else none:Option (By×By×By×Int×Unit)).bind (fun v7=>some (Sum.inl (v7.1,v7.2.1,v7.2.2.1,IntKind.i64.wrap (v7.2.2.2.1+1),())))=some (Sum.inl (t,Cw,out ++ z,((i+1:Nat):Int),()):(By×By×By×Int×Unit) ⊕ (By×Unit)):=by
  intro w z ZL hz;rw [if_pos (big _ (by omega)),abo,hz];simp only [hw]
 by_cases c8:c=8
 ·rw [if_pos (abt c8),if_pos c8]; exact fin [92,98] _ (by decide) rfl
 rw [if_neg (by simpa using c8),if_neg c8];by_cases c9:c=9
 ·rw [if_pos (abt c9),if_pos c9]; exact fin [92,116] _ (by decide) rfl
 rw [if_neg (by simpa using c9),if_neg c9];by_cases c10:c=10
 ·rw [if_pos (abt c10),if_pos c10]; exact fin [92,110] _ (by decide) rfl
 rw [if_neg (by simpa using c10),if_neg c10];by_cases c12:c=12
 ·rw [if_pos (abt c12),if_pos c12]; exact fin [92,102] _ (by decide) rfl
 rw [if_neg (by simpa using c12),if_neg c12];by_cases c13:c=13
 ·rw [if_pos (abt c13),if_pos c13]; exact fin [92,114] _ (by decide) rfl
 rw [if_neg (by simpa using c13),if_neg c13];by_cases c32:c.toNat<32
 ·have c32':(c.toNat:Int)<32:=by omega
  rw [if_pos (abt c32'),if_pos c32];obtain ⟨x1,x2⟩:=R7 ⟨c.toNat,c32⟩;simp only at x1 x2;rw [if_pos (by rw [abn]; simp only [abr,abp,List.length_nil]; omega),x1,abo,if_pos (by rw [abn]; simp only [abr,abp,List.length_nil]; omega),x2,abo,if_pos (by rw [abn]; simp only [abr,abp,List.length_nil]; omega),abo];simp only [hw,List.append_assoc];rfl
 ·have c32' : ¬ (c.toNat:Int)<32:=by omega
  rw [if_neg (by simpa using c32'),if_neg c32,hs,abo];exact fin [c] _ (by simp) rfl
theorem zi (t:By) (ht:t.length≤1000000) : ∀ (n i:Nat) (out:By),i+n=t.length→out.length+6 * n≤10000000→af dq (t,Cw,out,(i:Int),()) (out ++ jV (t.drop i),())
 | 0,i,out,h,ho=>by
  refine af.fin (.of fun F => ?_);unfold dq;rw [if_neg (by simp; omega),List.drop_eq_nil_of_le (by omega)];show _=some (Sum.inr (out ++ [],()));rw [List.append_nil]
 | n+1,i,out,h,ho=>by
  have hi:i<t.length:=by omega
  have hd:=List.drop_eq_getElem_cons hi;have hl:=BD t[i];refine af.step (.of fun F=>Gz F t out i t[i] (List.getElem?_eq_getElem hi) ht (by omega)) ?_;have:=zi t ht n (i+1) (out ++ ta t[i]) (by omega) (by rw [abr]; omega);rw [hd];rw [List.append_assoc] at this;exact this
theorem Q2 (t:By):(jV t).length≤6 * t.length:=by
 induction t with
 | nil=>exact Nat.le_refl _
 | cons c t ih =>
  have:=BD c;show (ta c ++ jV t).length ≤ _;rw [abr,abp];omega
theorem AY (t:By) (ht:t.length≤1000000):ae (fun F=>bq F t) (quo t):=by
 unfold bq;have h:=zi t ht t.length 0 [34] (by omega) (by simp; omega);refine ae.bind h.run ?_;have:=Q2 t;refine ae.pos (by rw [abn]; simp; omega) (.of fun F => ?_);rfl
theorem Kp (s q:By) (c:UInt8) (h:c :: q <:+ s) (hs:s.length≤1000) (k:Int) (hk:0≤k∧k≤100):ae (fun F=>aR F (st s (c :: q) k 0)) ((),st s (skp q) (k+1) (if 8<k+1 then 10 else 0)):=by
 have hw:IntKind.i64.wrap (k+1)=k+1:=wrap64 _ (by omega) (by omega);unfold aR;refine ae.bind (r:=(((),st s (c :: q) (k+1) (if 8<k+1 then 10 else 0),()):Unit×RS×Unit)) ?_ ?_
 ·refine .of fun F => ?_
  unfold st;simp only [hw];by_cases h8:8<k+1
  ·rw [if_pos (abt h8),if_pos h8,bad_eq,if_pos rfl]; rfl
  ·rw [if_neg (by simpa using h8),if_neg h8]
 ·have hb:=jU s q (cT h) hs (k+1) (if 8<k+1 then 10 else 0)
  have hn:=ek h hs;refine ae.bind (r:=((),st s (skp q) (k+1) (if 8<k+1 then 10 else 0))) ?_ (.ret _);unfold st at hb ⊢
  simp only [hn];exact hb
theorem kz (s r:By) (h:r <:+ s) (F:Nat) (k e:Int) (z:UInt8):ak F (st s (skp r) k e,(z.toNat:Int))=some (isH (skp r) e z,st s (skp r) k e):=Tn F s (skp r) ((av r).trans h) k e z
theorem HC (s r q:By) (h:r <:+ s) (hs:s.length≤1000) (k:Int) (z:UInt8) (hr:skp r=44 :: q):ae (fun F=>aw F (st s r k 0,(z.toNat:Int))) (true,st s q k 0):=by
 have h1:=fun F=>kz s r h F k 0 44
 have hq:44 :: q <:+ s:=hr ▸ (av r).trans h;have hb:=jU s r h hs k 0;rw [hr] at hb;simp only [hr,jS,decide_true] at h1;unfold aw;refine ae.bind hb ?_;refine ae.bind (.of h1) ?_;refine ae.pos rfl (.of fun F => ?_);unfold st;simp only [ek hq hs]
theorem Kn (s r q:By) (h:r <:+ s) (hs:s.length≤1000) (k:Int) (hk:0≤k∧k≤100) (z:UInt8) (hz:z≠44) (hr:skp r=z :: q):ae (fun F=>aw F (st s r k 0,(z.toNat:Int))) (false,st s q (k - 1) 0):=by
 have h1:=fun F=>kz s r h F k 0 44
 have h2:=fun F=>kz s r h F k 0 z
 have hq:z :: q <:+ s:=hr ▸ (av r).trans h;have hb:=jU s r h hs k 0;rw [hr] at hb;simp only [hr,jS,abu hz] at h1;simp only [hr,jS,decide_true] at h2;have hw:IntKind.i64.wrap (k - 1)=k - 1:=wrap64 _ (by omega) (by omega);unfold aw;refine ae.bind hb ?_;refine ae.bind (.of h1) ?_;refine ae.neg abw ?_;refine ae.bind (.of h2) ?_;refine ae.pos rfl (.of fun F => ?_);unfold st;simp only [ek hq hs,hw]
theorem BN (s r:By) (h:r <:+ s) (hs:s.length≤1000) (k e:Int) (z:UInt8) (h1:isH (skp r) e 44=false) (h2:isH (skp r) e z=false):ae (fun F=>aw F (st s r k e,(z.toNat:Int))) (false,st s (skp r) k (if e=0 then 3 else e)):=by
 have i1:=fun F=>kz s r h F k e 44
 have i2:=fun F=>kz s r h F k e z
 have hb:=jU s r h hs k e;simp only [h1] at i1;simp only [h2] at i2;unfold aw;refine ae.bind hb ?_;refine ae.bind (.of i1) ?_;refine ae.neg abw ?_;refine ae.bind (.of i2) ?_;refine ae.neg abw (.of fun F => ?_);unfold st;simp only [bad_eq,abo]
theorem sL {r:By} {z:UInt8} (h : ∀ q,r=z :: q→False) (e:Int):isH r e z=false:=by
 unfold isH;cases r with
 | nil=>cases decide (e=0) <;> rfl
 | cons c q =>
  have : ¬ c=z:=by rintro rfl; exact h q rfl
  have h2:((c :: q).head? == some z)=false:=by simpa using this
  rw [h2,Bool.and_false]
theorem Dw (s:By) (e:Nat) (x:RS) (hx:Bad s e x) (hs:s.length≤1000) (z:UInt8) : ∃ x',ae (fun F=>aw F (x,(z.toNat:Int))) (false,x')∧Bad s e x':=by
 obtain ⟨he,r,k,rfl,hr,hk⟩:=hx;have J0 : ¬ (e:Int)=0:=by omega
 have h:=BN s r hr hs k e z (tK _ _ J0 _) (tK _ _ J0 _);rw [if_neg J0] at h;exact ⟨_,h,he,skp r,k,rfl,(av r).trans hr,hk⟩
def k6:List By→By→Nat
 | [],_=>0
 | y :: l,x=>if ltB y x=true then k6 l x+1 else 0
theorem Ky : ∀ (l:List By) (x:By),k6 l x≤l.length
 | [],_=>Nat.le_refl _
 | y :: l,x=>by
  unfold k6;split
  ·have:=Ky l x; rw [abp]; omega
  ·omega
theorem BG (l:List By) (x:By) (hl:l.length≤1000000) : ∀ (n i:Nat),i+n=l.length→af de (l,x,(i:Int),()) (if k6 (l.drop i) x=(l.drop i).length then .inl (l,()) else .inr (((i+k6 (l.drop i) x:Nat):Int),decide ((l.drop i)[k6 (l.drop i) x]? = some x),()))
 | 0,i,h=>by
  refine af.fin (.of fun F => ?_);unfold de;rw [if_neg (by simp; omega),List.drop_eq_nil_of_le (by omega)];rfl
 | n+1,i,h=>by
  have hi:i<l.length:=by omega
  have h0:(i:Int)<(l.length:Int):=by omega
  have hx:idx l (i:Int)=some l[i]:=bc _ _ _ (List.getElem?_eq_getElem hi);rw [List.drop_eq_getElem_cons hi];by_cases hc:ltB l[i] x=true
  ·have hp:k6 (l[i] :: l.drop (i+1)) x=k6 (l.drop (i+1)) x+1:=by
    show (if ltB l[i] x=true then _ else _) = _;rw [if_pos hc]
   rw [hp];refine af.step (x':=(l,x,((i+1:Nat):Int),())) (.of fun F => ?_) ?_
   ·unfold de
    rw [if_pos (by simpa using h0)];simp only [hx,abo];have vG:Op.bytesLess l[i] x=true:=hc;rw [vG,if_neg (by decide),wrap64 _ (by omega) (by omega)];rfl
   ·have:=BG l x hl n (i+1) (by omega)
    simp only [abp,List.getElem?_cons_succ];rw [show i+(k6 (l.drop (i+1)) x+1)=i+1+k6 (l.drop (i+1)) x by omega];by_cases he:k6 (l.drop (i+1)) x=(l.drop (i+1)).length
    ·rw [if_pos he] at this
     rw [if_pos (by omega)];exact this
    ·rw [if_neg he] at this
     rw [if_neg (by omega)];exact this
  ·have hp:k6 (l[i] :: l.drop (i+1)) x=0:=by
    show (if ltB l[i] x=true then _ else _) = _;rw [if_neg hc]
   rw [hp,if_neg (by rw [abp]; omega)];refine af.fin (.of fun F => ?_);unfold de;rw [if_pos (by simpa using h0)];simp only [hx,abo];have vG:Op.bytesLess l[i] x=false:=by simpa using hc
   rw [vG,if_pos (by decide),List.getElem?_cons_zero,Nat.add_zero];simp
theorem Sk (l:List By) (x:By) (hl:l.length≤1000000):ae (fun F=>cY F (l,x)) ((k6 l x:Int),decide (l[k6 l x]? = some x)):=by
 have h:=BG l x hl l.length 0 (by omega);rw [List.drop_zero] at h;unfold cY;refine ae.bind h.run ?_;by_cases he:k6 l x=l.length
 ·rw [if_pos he]
  refine .of fun F => ?_
  rw [aA,he,List.getElem?_eq_none (Nat.le_refl _)];rfl
 ·rw [if_neg he]
  refine .of fun F => ?_
  rw [aX,Nat.zero_add]
def EK {α:Type} (l:List α) (p:Nat) (x:α):List α:=l.take p ++ [x] ++ l.drop p
theorem Tf (F:Nat) (l:List By) (p:Nat) (x:By) (hl:l.length≤1000000) (hp:p≤l.length):bU F (l,(p:Int),x)=some (EK l p x):=by
 unfold bU;have h1:sub l 0 (p:Int)=some (l.take p):=by
  have:=j4 l 0 p (by omega) hp;rw [List.drop_zero,Nat.sub_zero] at this;exact this
 have h2:sub l (p:Int) (l.length:Int)=some (l.drop p):=eV l p hp;simp only [h1,h2,abo];have aM:(l.take p).length≤1000000:=by rw [List.length_take]; omega
 have Zk:(l.drop p).length≤1000000:=by rw [List.length_drop]; omega
 rw [if_pos (by rw [abn]; omega),if_pos (by rw [abn]; simp only [List.length_singleton]; omega),if_pos (by rw [abn,abr]; simp only [List.length_singleton]; omega)];rfl
theorem Ba {α β:Type} (f:α→β) (l:List α) (p:Nat) (x:α):(EK l p x).map f=EK (l.map f) p (f x):=by unfold EK; simp
theorem Bn (m:Me) : ∀ l:List Me,(∀ x∈l,x.1≠m.1)→E1 m l=EK l (k6 (l.map (·.1)) m.1) m
 | [],_=>rfl
 | x :: l,h=>by
  have hx:x.1≠m.1:=h x (List.mem_cons_self ..);have ih:=Bn m l (fun y hy=>h y (List.mem_cons_of_mem _ hy));unfold E1;rw [List.map_cons];unfold k6;by_cases hc:ltB x.1 m.1=true
  ·rw [if_pos hc,if_neg (by rw [Ht _ _ hc]; decide),ih]
   unfold EK;rw [List.take_succ_cons,List.drop_succ_cons];rfl
  ·have:ltB m.1 x.1=true:=by
    cases e:ltB m.1 x.1 with
    | true=>rfl
    | false=>exact absurd (tA _ _ (by simpa using hc) e) hx
   rw [if_neg hc,if_pos this];rfl
theorem DP (x:By) : ∀ l:List Me,Ris l→decide ((l.map (·.1))[k6 (l.map (·.1)) x]? = some x)=l.any (fun m=>m.1 == x)
 | [],_=>by rfl
 | m :: l,h=>by
  obtain ⟨h1,h2⟩:=List.pairwise_cons.1 h;have ih:=DP x l h2;rw [List.map_cons,List.any_cons];unfold k6;by_cases hc:ltB m.1 x=true
  ·rw [if_pos hc,List.getElem?_cons_succ,ih]
   have:(m.1 == x)=false:=by
    rw [beq_eq_false_iff_ne];intro hh;rw [hh,tU] at hc;cases hc
   rw [this,Bool.false_or]
  ·rw [if_neg hc,List.getElem?_cons_zero]
   by_cases he:m.1=x
   ·rw [he]; simp
   ·have hf:(m.1 == x)=false:=beq_eq_false_iff_ne.2 he
    have aM:ltB x m.1=true:=by
     cases e:ltB x m.1 with
     | true=>rfl
     | false=>exact absurd (tA _ _ (by simpa using hc) e) he
    have hl:l.any (fun m=>m.1 == x)=false:=by
     rw [List.any_eq_false];intro y hy;have:=np _ _ _ aM (h1 y hy);intro hh;rw [beq_iff_eq.1 hh,tU] at this;cases this
    rw [hf,hl];simp [he]
end Go.Vm
namespace Go.Vm
open Go.Lib (decodeL decDigits itoa)
def Oy:JV→Int
 | .nil=>0
 | .null=>1
 | .bool _=>2
 | .int _=>3
 | .str _=>4
 | .list _=>5
 | .obj _=>6
def Qb:JV→By
 | .str t=>t
 | _ => []
def UM:JV→Int
 | .int n=>n
 | _=>0
def Io:JV→List By
 | .obj l=>l.map (·.1)
 | _ => []
def Wr (d:Nat) (v:JV):By:=match d with
 | 0 => []
 | d+1=>dv d v
def JF (d:Nat):JV→List By
 | .list l=>l.map (Wr d)
 | .obj l=>l.map fun m=>Wr d m.2.1
 | _ => []
def pn (d:Nat) (v:JV):V9:=(Oy v,dv d v,Qb v,UM v,Io v,JF d v,())
def RV9 (s:By) (d:Nat) (x:Except Nat (JV×By)) (y:V9×RS):Prop:=match x with
 | .ok (v,q)=>y=(pn d v,st s q (8 - (d:Int)) 0)
 | .error e=>Bad s e y.2∧y.1.2.1.length≤9000 * (d+1)
def VT9 (s:By) (d:Nat) (R:Nat→RS→Option (V9×RS)):Prop := ∀ r,r <:+ s → ∃ y,ae (fun F=>R F (st s r (8 - (d:Int)) 0)) y∧RV9 s d (hP d r) y
abbrev LS9:=Unit×Unit×Unit×RS×V9×(Int×By×By×Int×List By×Unit×Unit)×List By×Unit
def lS (its:List By) (form:By) (x:RS):LS9:=((),(),(),x,z9,(5,form,[],0,[],(),()),its,())
def xW (l:List By):Nat:=(l.map fun b=>b.length+1).sum
theorem DW (l:List By) (b:By):xW (l ++ [b])=xW l+(b.length+1):=by unfold xW; simp
theorem GL (l:List By):l.length≤xW l:=by
 unfold xW;induction l with
 | nil=>exact Nat.le_refl _
 | cons b l ih=>simp only [List.map_cons,List.sum_cons,abp]; omega
theorem xN : ∀ l:List By,(bE l).length≤xW l
 | []=>Nat.le_refl _
 | [b]=>by unfold bE xW; simp
 | b :: c :: l=>by
  have ih:=xN (c :: l);unfold bE;unfold xW at ih ⊢
  rw [List.map_cons,List.sum_cons,abr,abp];omega
def RL9 (s:By) (d:Nat) (its:List By) (x:Except Nat (List JV×By)) (y:LS9):Prop := ∃ its' x',y=lS its' [] x'∧xW its'≤2000+9000 * (d+1)∧match x with
 | .ok (l,q)=>its'=its ++ l.map (dv d)∧x'=st s q (8 - (d:Int) - 1) 0
 | .error e=>Bad s e x'
theorem AG (s:By) (hs:s.length≤1000) (d:Nat) (hd:d≤8) (R:Nat→RS→Option (V9×RS)) (hR:VT9 s d R) : ∀ (n:Nat) (r:By) (its:List By),r <:+ s→r.length+1≤n→xW its+r.length≤1001 →
  ∃ y,af (fun F=>bT F (R F)) (lS its [] (st s r (8 - (d:Int)) 0)) y∧RL9 s d its (p8 (hP d) n r) y
 | 0,r,its,hr,hn,ha=>by omega
 | n+1,r,its,hr,hn,ha=>by
  obtain ⟨⟨v,x⟩,h1,h2⟩:=hR r hr;have QR:=GL its;have hlen:decide ((its.length+1) * 16≤140737488355328)=true:=by rw [abn]; omega
  have a7 : ∀ (b:Bool) (x':RS),ae (fun F=>aw F (x,((93:UInt8).toNat:Int))) (b,x')→ae (fun F=>bT F (R F) (lS its [] (st s r (8 - (d:Int)) 0))) (if (!b)=true then .inr (lS (its ++ [v.2.1]) [] x') else .inl (lS (its ++ [v.2.1]) [] x')):=by
   intro b x' dc;unfold bT lS st;refine ae.pos (by rfl) ?_;refine ae.bind (r:=lS (its ++ [v.2.1]) [] x) ?_ ?_
   ·refine ae.bind h1 ?_
    refine ae.pos (by simpa using hlen) ?_;exact .ret _
   ·refine ae.bind dc ?_
    cases b <;> exact .ret _
  unfold p8;cases hv:hP d r with
  | error e =>
   rw [hv] at h2;obtain ⟨hb,mh⟩:Bad s e x∧v.2.1.length≤9000 * (d+1):=h2;obtain ⟨x',h3,h4⟩:=Dw s e x hb hs 93;exact ⟨_,af.fin (a7 false x' h3),_,x',rfl,by rw [DW]; omega,h4⟩
  | ok w =>
   obtain ⟨v',r1⟩:=w;rw [hv] at h2;have h2:(v,x)=(pn d v',st s r1 (8 - (d:Int)) 0):=h2
   injection h2 with h2 JW
   subst h2; subst JW;have Xp:(pn d v').2.1=dv d v':=rfl;rw [Xp] at a7;obtain ⟨_,o2,o3,o4⟩:=vc d r v' r1 hv;have uA:=o2.trans hr;have pM:=eZ r1;have Y0:=DW its (dv d v');simp only;split
   ·rename_i r' yq
    rw [yq] at pM;simp only [abp] at pM;have rn:r' <:+ s:=((List.suffix_cons 44 r').trans (yq ▸ av r1)).trans uA;obtain ⟨y,i1,its',x',i2,i3,i4⟩:=AG s hs d hd R hR n r' (its ++ [dv d v']) rn (by omega) (by omega);refine ⟨y,af.step (a7 true _ (HC s r1 r' uA hs _ 93 yq)) i1,its',x',i2,i3,?_⟩;cases hl:p8 (hP d) n r' with
    | error e=>rw [hl] at i4; exact i4
    | ok w =>
     obtain ⟨l,q⟩:=w;rw [hl] at i4;obtain ⟨i4,i5⟩:=i4;refine ⟨?_,i5⟩;rw [i4,List.map_cons,List.append_assoc,List.singleton_append]
   ·rename_i r' Vr
    exact ⟨_,af.fin (a7 false _ (Kn s r1 r' uA hs _ (by omega) 93 (by decide) Vr)),_,_,rfl,by omega,rfl,rfl⟩
   ·rename_i Vs S5
    have FG:=BN s r1 uA hs (8 - (d:Int)) 0 93 (sL (fun q h=>Vs q h) 0) (sL (fun q h=>S5 q h) 0);exact ⟨_,af.fin (a7 false _ FG),_,_,rfl,by omega,by decide,skp r1,_,rfl,(av r1).trans uA,by omega,by omega⟩
theorem BB (R:Nat→RS→Option (V9×RS)) (its:List By) (x:RS) (hl:its.length≤1000000) : ∀ (n i:Nat) (form:By),i+n=its.length→form.length+(iq (fun b:By=>b) i (its.drop i)).length≤1000000 →
  af (fun F=>dA F (R F)) ((),(),(),(i:Int),x,z9,(5,form,[],0,[],(),()),its,()) (lS its (form ++ iq (fun b:By=>b) i (its.drop i)) x)
 | 0,i,form,h,hb=>by
  refine af.fin (.of fun F => ?_);unfold dA;rw [if_neg (by simp; omega),List.drop_eq_nil_of_le (by omega)];have:iq (fun b:By=>b) i ([]:List By) = []:=by unfold iq; split <;> rfl
  rw [this,List.append_nil];rfl
 | n+1,i,form,h,hb=>by
  have hi:i<its.length:=by omega
  have hx:idx its (i:Int)=some its[i]:=bc _ _ _ (List.getElem?_eq_getElem hi);rw [List.drop_eq_getElem_cons hi,qk] at hb ⊢
  rw [abr,abr] at hb;have hw:IntKind.i64.wrap ((i:Int)+1)=((i+1:Nat):Int):=by rw [wrap64 _ (by omega) (by omega)]; omega
  refine af.step (x':=((),(),(),((i+1:Nat):Int),x,z9,(5,form ++ (if i=0 then [] else [44]) ++ its[i],[],0,[],(),()),its,())) ?_ ?_
  ·unfold dA
   refine ae.pos (by simpa using hi) ?_;refine ae.bind (r:=(((),(),(),(i:Int),x,z9,(5,form ++ (if i=0 then [] else [44]),[],0,[],(),()),its,()):Unit×Unit×Unit×Int×RS×V9×(Int×By×By×Int×List By×Unit×Unit)×List By×Unit)) ?_ ?_
   ·by_cases h0:i=0
    ·subst h0
     refine ae.neg (by show ¬ decide ((0:Int)<((0:Nat):Int))=true; decide) ?_;rw [if_pos rfl,List.append_nil];exact .ret _
    ·refine ae.pos (by show decide ((0:Int)<(i:Int))=true; rw [abn]; omega) ?_
     rw [if_neg h0] at hb ⊢
     exact ae.pos (by rw [abn]; simp only [List.length_singleton] at hb ⊢; omega) (.ret _)
   ·refine ae.bind (.of fun F=>hx) ?_
    refine ae.pos (by rw [abn,abr]; omega) (.of fun F => ?_);simp only [hw]
  ·have:=BB R its x hl n (i+1) (form ++ (if i=0 then [] else [44]) ++ its[i]) (by omega) (by rw [abr,abr]; omega)
   rw [List.append_assoc,List.append_assoc] at this;rw [← List.append_assoc (if i=0 then ([]:By) else [44])];simpa only [List.append_assoc] using this
theorem SD (s:By) (hs:s.length≤1000) (d:Nat) (hd:d≤8) (R:Nat→RS→Option (V9×RS)) (hR : ∀ d',d=d'+1→VT9 s d' R) (q:By) (hq:91 :: q <:+ s) :
  ∃ y,ae (fun F=>aQ F (R F) (st s (91 :: q) (8 - (d:Int)) 0)) y∧RV9 s d (match (match d with | 0=>none | d+1=>some (hP d):Option (By→Except Nat (JV×By))) with
   | none => .error 10
   | some V=>match skp q with
    | 93 :: r => .ok (.list [],r)
    | r=>match p8 V (r.length+1) r with
     | .error e => .error e
     | .ok (l,r) => .ok (.list l,r)) y:=by
 have HU:=cT hq;have pM:skp q <:+ s:=(av q).trans HU;have uz:=Kp s q 91 hq hs (8 - (d:Int)) (by omega);have S5:=fun e k=>fun F=>kz s q HU F k e 93
 -- behind the first loop
 have ahead : ∀ (its:List By) (x x':RS),xW its≤900000→ae (fun F=>aR F (st s (91 :: q) (8 - (d:Int)) 0)) ((),x)→ae (fun F=>ak F (x,((93:UInt8).toNat:Int))) (false,x)→af (fun F=>bT F (R F)) (lS [] [] x) (lS its [] x')→ae (fun F=>aQ F (R F) (st s (91 :: q) (8 - (d:Int)) 0)) ((5,91 :: (bE its ++ [93]),[],0,[],its,()),x'):=by
  intro its x x' hj h1 h2 h3;have Qx:=xN its;have QR:=GL its;have VS:=BB R its x' (by omega) its.length 0 [] (by omega) (by unfold iq; rw [if_pos rfl,List.drop_zero,List.map_id']; simp; omega);rw [List.drop_zero] at VS;have e0:iq (fun b:By=>b) 0 its=bE its:=by unfold iq; rw [if_pos rfl,List.map_id']
  rw [e0,List.nil_append] at VS;unfold aQ;refine ae.bind h1 ?_;refine ae.bind h2 ?_;refine ae.neg abw ?_;refine ae.bind h3.run ?_;refine ae.bind VS.run ?_;unfold lS;refine ae.pos (by rw [abn]; simp only [List.length_singleton]; omega) ?_;refine ae.pos (by rw [abn,abr]; simp only [List.length_singleton]; omega) (.of fun F=>rfl)
 cases d with
 | zero =>
  rw [if_pos (by decide)] at uz;have h2:=S5 10 (8 - ((0:Nat):Int)+1);simp only [tK _ (10:Int) (by decide) _] at h2;refine ⟨_,ahead [] _ _ (by decide) uz (.of h2) (af.fin (.of fun F=>rfl)),⟨by decide,skp q,8 - ((0:Nat):Int)+1,rfl,pM,by decide,by decide⟩,?_⟩;show (2:Nat)≤9000 * (0+1)
  decide
 | succ d =>
  rw [if_neg (by omega)] at uz;have e8:(8:Int) - ((d+1:Nat):Int)+1=8 - (d:Int):=by omega
  rw [e8] at uz;have e9:(8:Int) - (d:Int) - 1=8 - ((d+1:Nat):Int):=by omega
  have h2:=S5 0 (8 - (d:Int));simp only;split
  ·rename_i r hr
   rw [hr] at uz pM;simp only [hr,jS,decide_true] at h2;refine ⟨((5,[91,93],[],0,[],[],()),st s r (8 - ((d+1:Nat):Int)) 0),?_,rfl⟩;unfold aQ;refine ae.bind uz ?_;refine ae.bind (.of h2) ?_;refine ae.pos rfl (.of fun F => ?_);unfold st;simp only [ek pM hs];rw [wrap64 _ (by omega) (by omega),e9]
  ·rename_i hr
   simp only [sL (fun q h=>hr q h)] at h2;have QE:=eY pM;obtain ⟨y,i1,its,x',rfl,i3,i4⟩:=AG s hs d (by omega) R (hR d rfl) ((skp q).length+1) (skp q) [] pM (Nat.le_refl _) (by unfold xW; simp; omega);have Qx:=xN its;have hd9:d≤8:=by omega
   have Y1:xW its≤900000:=Nat.le_trans i3 (by clear i3 i4 i1 uz h2 S5 ahead; omega);refine ⟨_,ahead its _ _ Y1 uz (.of h2) i1,?_⟩;cases hl:p8 (hP d) ((skp q).length+1) (skp q) with
   | error e =>
    rw [hl] at i4;refine ⟨i4,?_⟩;simp only [abp,abr,List.length_nil];omega
   | ok w =>
    obtain ⟨l,r⟩:=w;rw [hl] at i4;obtain ⟨rfl,rfl⟩:=i4;rw [e9,List.nil_append];unfold RV9 pn;simp only [Oy,Qb,UM,Io,JF,dv,yi];rfl
end Go.Vm
