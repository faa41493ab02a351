import Derived.Test.YtihpjgcbmipdbaaGreatDoorPrt
set_option linter.unusedVariables false
namespace Go.Vm
open Go Go.Proofs
theorem O6 (n:Int) (h:0≤n):IntKind.u8.wrap n=n % 256:=by
 simp only [IntKind.wrap,IntKind.signed,IntKind.bits];simp
def upN (n:Nat):Nat:=if 97≤n∧n≤122 then n - 32 else n
def upC (c:UInt8):UInt8:=UInt8.ofNat (upN c.toNat)
def isL (c:UInt8):Bool:=decide (65≤upN c.toNat∧upN c.toNat≤90)
def Rv (n:Nat):Int:=if 48≤n∧n≤57 then (n:Int) - 48 else if 65≤n∧n≤70 then (n:Int) - 55 else if 97≤n∧n≤102 then (n:Int) - 87 else -1
def dgt (c:UInt8):Int:=Rv c.toNat
def Ap (n:Nat):Bool:=decide ((65≤n∧n≤90)∨(97≤n∧n≤122)∨(48≤n∧n≤57)∨n=45∨n=46∨n=95∨n=126)
def lr (c:UInt8):Bool:=Ap c.toNat
def sC (n:Nat):UInt8:=UInt8.ofNat (if n<10 then 48+n else 55+n)
theorem Is : ∀ c:Fin 256,ik 0 ((c.val:Nat):Int)=some (((upN c.val:Nat):Int),decide (65≤upN c.val∧upN c.val≤90)):=by decide +kernel
theorem Mb : ∀ c:Fin 256,gV 0 ((c.val:Nat):Int)=some (Rv c.val):=by decide +kernel
theorem H4 : ∀ c:Fin 256,cf 0 ((c.val:Nat):Int)=some (Rv c.val):=by decide +kernel
theorem M5 : ∀ c:Fin 256,lN 0 ((c.val:Nat):Int)=some (Ap c.val):=by decide +kernel
theorem Sc : ∀ c:Fin 16,fp 0 ((c.val:Nat):Int)=some [sC c.val]:=by decide +kernel
theorem MB : ∀ c:Fin 16,idx ([48,49,50,51,52,53,54,55,56,57,65,66,67,68,69,70]:B8) ((c.val:Nat):Int)=some (sC c.val):=by decide +kernel
theorem DK (F:Nat) (c:UInt8):ik F (c.toNat:Int)=some (((upN c.toNat:Nat):Int),isL c):=Is ⟨c.toNat,c.toNat_lt⟩
theorem pq (F:Nat) (c:UInt8):gV F (c.toNat:Int)=some (dgt c):=Mb ⟨c.toNat,c.toNat_lt⟩
theorem nk (F:Nat) (c:UInt8):cf F (c.toNat:Int)=some (dgt c):=H4 ⟨c.toNat,c.toNat_lt⟩
theorem Px (F:Nat) (c:UInt8):lN F (c.toNat:Int)=some (lr c):=M5 ⟨c.toNat,c.toNat_lt⟩
theorem Oi (F n:Nat) (h:n<16):fp F (n:Int)=some [sC n]:=Sc ⟨n,h⟩
theorem He (n:Nat) (h:n<16):idx ([48,49,50,51,52,53,54,55,56,57,65,66,67,68,69,70]:B8) (n:Int)=some (sC n):=MB ⟨n,h⟩
theorem E6 (c:UInt8) : -1≤dgt c∧dgt c≤15:=by unfold dgt Rv; have:=c.toNat_lt; repeat' split
                                             all_goals omega
theorem byte_back (c:UInt8):UInt8.ofNat ((c.toNat:Int)).toNat=c:=by simp
theorem LY (c:UInt8):UInt8.ofNat ((upN c.toNat:Nat):Int).toNat=upC c:=by simp [upC]
theorem nD (F:Nat) (l:B8) (n:Int) (hl:l.length≤1000000000000):aG F (((),l,()),n)=some ((),((),l ++ [UInt8.ofNat n.toNat],())):=by
 have h1:cE F ((),l,())=some ((),((),l,())):=rfl;unfold aG;simp only [h1,abo];rw [if_pos (by simp; omega)];rfl
theorem bP {α β:Type} {x:Option α} {a:α} {f:α→Option β} {r:Option β} (h:x=some a) (h2:f a=r):x.bind f=r:=by rw [h]; exact h2
def yK (out rest:B8):(Unit×abf×B8×Unit) ⊕ (B8×Bool×Unit):=if rest.all isL=true then .inl ((),((),(),()),out ++ rest.map upC,()) else .inr ([],false,())
theorem Rk {c:UInt8} {rest out:B8} (h:isL c=true):yK out (c :: rest)=yK (out ++ [upC c]) rest:=by
 unfold yK;rw [List.all_cons,h,Bool.true_and,List.map_cons,List.append_assoc,List.singleton_append]
theorem Se {c:UInt8} {rest out:B8} (h:isL c=false):yK out (c :: rest) = .inr ([],false,()):=by
 unfold yK;rw [List.all_cons,h,Bool.false_and];rfl
theorem CW (s:B8) (hs:s.length≤1000) : ∀ (m k:Nat) (out:B8),k+m=s.length→out.length+m≤5000 →
  af gF (s,(),(s.length:Int),(k:Int),((),(),()),out,()) (yK out (s.drop k))
 | 0,k,out,h,ho=>by
  refine af.fin (.of fun F => ?_);unfold gF;refine (if_neg (by simp; omega)).trans ?_;rw [List.drop_eq_nil_of_le (by omega)];simp [yK]
 | m+1,k,out,h,ho=>by
  have hk:k<s.length:=by omega
  have hx:=vq s k (k:Int) rfl hk;rw [List.drop_eq_getElem_cons hk];cases hl:isL s[k]
  ·refine af.fin (.of fun F => ?_)
   unfold gF;refine (if_pos (by simp; omega)).trans ?_;simp only [hx,abo,DK,hl];rw [Se hl];rfl
  ·have ih:=CW s hs m (k+1) (out ++ [upC s[k]]) (by omega) (by simp; omega)
   rw [Rk hl];refine af.step (.of fun F => ?_) ih;unfold gF;refine (if_pos (by simp; omega)).trans ?_;simp only [hx,abo,DK,hl,nD F out _ (by omega),LY];rw [if_neg (by simp),gp k (by omega)]
def gQ (s:B8):B8×Bool:=if s = []∨8<s.length then ([],false) else if s.all isL=true then (s.map upC,true) else ([],false)
theorem tF {s:B8} (h:s = []∨8<s.length):gQ s=([],false):=by unfold gQ; rw [if_pos h]
theorem F0 {s:B8} (h : ¬ (s = []∨8<s.length)):gQ s=if s.all isL=true then (s.map upC,true) else ([],false):=by unfold gQ; rw [if_neg h]
theorem Jb (s:B8):ae (fun F=>kO F s) (gQ s):=by
 unfold kO;by_cases h0:s = []
 ·rw [tF (.inl h0)]
  refine ae.bind (r:=(s,true,())) (.of fun F=>if_neg (by simpa using h0)) (ae.pos rfl (.ret _))
 by_cases h8:8<s.length
 ·rw [tF (.inr h8)]
  refine ae.bind (r:=(s,true,())) (.of fun F=>(if_pos (by simpa using h0)).trans ?_) (ae.pos rfl (.ret _));rw [abt (by omega)]
 rw [F0 (by rintro (h | h) <;> contradiction)];refine ae.bind (r:=(s,false,())) (.of fun F=>(if_pos (by simpa using h0)).trans ?_) (ae.neg (by simp) ?_)
 ·rw [abu (by omega)]
 have hl:=CW s (by omega) s.length 0 [] (by omega) (by simp; omega);rw [List.drop_zero] at hl;refine ae.bind hl.run ?_;unfold yK;split
 ·exact .ret _
 ·exact .ret _
def sA (out rest:B8):(B8×Unit) ⊕ (B8×Bool×Unit):=if rest.all isL=true then .inl (out ++ rest.map upC,()) else .inr ([],false,())
theorem AM (F:Nat) (s:B8) (hs:s.length≤1000) (k:Nat) (hk:k<s.length) (out:B8) (ho:out.length≤5000) :
  cM F (s,out,(k:Int),())=if isL s[k]=true then some (.inl (s,out ++ [upC s[k]],((k+1:Nat):Int),())) else some (.inr (.inr ([],false,()))):=by
 have hx:=vq s k (k:Int) rfl hk;unfold cM;refine (if_pos (by simp; omega)).trans ?_;simp only [hx,abo];have hn:s[k].toNat<256:=s[k].toNat_lt;have hU:upC s[k]=UInt8.ofNat (upN s[k].toNat):=rfl;have hI:isL s[k]=decide (65≤upN s[k].toNat∧upN s[k].toNat≤90):=rfl;rw [hU,hI];generalize s[k].toNat=n at hn;refine bP (a:=(s,out,(k:Int),(n:Int),decide ((97:Int)≤(n:Int)∧(n:Int)≤122),())) ?_ (bP (a:=(s,out,(k:Int),((upN n:Nat):Int),())) ?_ ?_)
 ·by_cases h1:(97:Int)≤(n:Int)
  ·simp [h1]
  ·simp [h1]
 ·unfold upN
  by_cases h1:97≤n∧n≤122
  ·rw [if_pos (abt (by omega)),if_pos h1,O6 _ (by simp only; omega)]
   simp only [Option.some.injEq,Prod.mk.injEq,true_and,and_true];omega
  ·rw [if_neg (by simpa using by omega),if_neg h1]
 generalize upN n=u;refine bP (a:=(s,out,(k:Int),(u:Int),decide (¬ (65≤u∧u≤90)),())) ?_ ?_
 ·by_cases h3:(u:Int)<65
  ·rw [if_neg (by simpa using h3)]
   have : ¬ (65≤u∧u≤90):=by omega
   simp [this]
  ·rw [if_pos (by simpa using h3)]
   simp only [Option.some.injEq,Prod.mk.injEq,true_and,and_true,decide_eq_decide];omega
 ·by_cases h5:65≤u∧u≤90
  ·rw [if_neg (by simp [h5]),if_pos (abt h5),if_pos (by simp; omega),gp k (by omega)]
   rfl
  ·rw [if_pos (abt h5),if_neg (by simpa using h5)]
theorem Of {c:UInt8} {rest out:B8} (h:isL c=true):sA out (c :: rest)=sA (out ++ [upC c]) rest:=by
 unfold sA;rw [List.all_cons,h,Bool.true_and,List.map_cons,List.append_assoc,List.singleton_append]
theorem Ql {c:UInt8} {rest out:B8} (h:isL c=false):sA out (c :: rest) = .inr ([],false,()):=by
 unfold sA;rw [List.all_cons,h,Bool.false_and];rfl
theorem Bh (s:B8) (hs:s.length≤1000) : ∀ (m k:Nat) (out:B8),k+m=s.length→out.length+m≤5000 →
  af cM (s,out,(k:Int),()) (sA out (s.drop k))
 | 0,k,out,h,ho=>by
  refine af.fin (.of fun F => ?_);unfold cM;refine (if_neg (by simp; omega)).trans ?_;rw [List.drop_eq_nil_of_le (by omega)];simp [sA]
 | m+1,k,out,h,ho=>by
  have hk:k<s.length:=by omega
  rw [List.drop_eq_getElem_cons hk];cases hl:isL s[k]
  ·refine af.fin (.of fun F => ?_)
   rw [AM F s hs k hk out (by omega),hl,if_neg (by simp),Ql hl]
  ·have ih:=Bh s hs m (k+1) (out ++ [upC s[k]]) (by omega) (by simp; omega)
   rw [Of hl];refine af.step (.of fun F => ?_) ih;rw [AM F s hs k hk out (by omega),hl,if_pos rfl]
theorem yZ (s:B8):ae (fun F=>dY F s) (gQ s):=by
 unfold dY;by_cases h0:s = []
 ·rw [tF (.inl h0)]
  refine ae.bind (r:=(s,true,())) (.of fun F=>if_neg (by simp [h0])) (ae.pos rfl (.ret _))
 have XU:0<s.length:=List.length_pos_iff.2 h0;by_cases h8:8<s.length
 ·rw [tF (.inr h8)]
  refine ae.bind (r:=(s,true,())) (.of fun F=>(if_pos (by simp; omega)).trans ?_) (ae.pos rfl (.ret _));rw [abt (by omega)]
 rw [F0 (by rintro (h | h) <;> contradiction)];refine ae.bind (r:=(s,false,())) (.of fun F=>(if_pos (by simp; omega)).trans ?_) (ae.neg (by simp) ?_)
 ·rw [abu (by omega)]
 have hl:=Bh s (by omega) s.length 0 [] (by omega) (by simp; omega);rw [List.drop_zero] at hl;refine ae.bind hl.run ?_;unfold sA;split
 ·exact .ret _
 ·exact .ret _
theorem JH : ∀ c:Fin 256,upN (upN c.val)=upN c.val∧upN c.val<256:=by decide +kernel
theorem J6 (c:UInt8):(upC c).toNat=upN c.toNat:=by
 have:=(JH ⟨c.toNat,c.toNat_lt⟩).2;simp only at this;simp [upC];omega
theorem Ub (c:UInt8):upC (upC c)=upC c:=by
 have:=(JH ⟨c.toNat,c.toNat_lt⟩).1;simp only at this;unfold upC;have e:=J6 c;unfold upC at e;rw [e,this]
theorem UA (c:UInt8):isL (upC c)=isL c:=by
 have:=(JH ⟨c.toNat,c.toNat_lt⟩).1;simp only at this;unfold isL;rw [J6,this]
theorem yC (s:B8) (h:(gQ s).2=true):gQ (gQ s).1=((gQ s).1,true):=by
 unfold gQ at h;split at h
 ·cases h
 ·rename_i h1
  split at h
  ·rename_i h2
   have e:gQ s=(s.map upC,true):=by unfold gQ; rw [if_neg h1,if_pos h2]
   rw [e];unfold gQ;rw [if_neg (by simpa using h1),if_pos (by simpa [UA] using h2)];simp [Ub]
  ·cases h
end Go.Vm
namespace Go.Vm
open Go Go.Proofs
def byteOf (a b:UInt8):UInt8:=UInt8.ofNat (16 * (dgt a).toNat+(dgt b).toNat)
def gY:B8→Option B8
 | []=>some []
 | c :: s=>if c≠37 then (gY s).map (c :: ·) else match s with
  | a :: b :: t=>if 0≤dgt a∧0≤dgt b then (gY t).map (byteOf a b :: ·) else none
  | _=>none
theorem pE:gY []=some []:=by rw [gY]
theorem wN {c:UInt8} {s:B8} (h:c≠37):gY (c :: s)=(gY s).map (c :: ·):=by rw [gY.eq_def]; exact if_pos h
theorem zM (a b:UInt8) (t:B8):gY (37 :: a :: b :: t)=if 0≤dgt a∧0≤dgt b then (gY t).map (byteOf a b :: ·) else none:=by rw [gY.eq_def]; simp
theorem oB {s:B8} (h:s.length≤1):gY (37 :: s)=none:=by
 rw [gY.eq_def]
 match s,h with
 | [],_=>simp
 | [a],_=>simp
theorem tM : ∀ (m:Nat) (s t:B8),s.length≤m→gY s=some t→t.length≤s.length
 | m,[],t,_,h=>by rw [pE] at h; cases h; simp
 | 0,c :: s,t,hm,h=>by simp at hm
 | m+1,c :: s,t,hm,h=>by
  by_cases hc:c=37
  ·subst hc
   match s,hm,h with
   | [],_,h=>rw [oB (by simp)] at h; cases h
   | [a],_,h=>rw [oB (by simp)] at h; cases h
   | a :: b :: u,hm,h =>
    rw [zM] at h;split at h
    ·obtain ⟨v,hv,rfl⟩:=Option.map_eq_some_iff.1 h
     have:=tM m u v (by simp at hm; omega) hv;simp; omega
    ·cases h
  ·rw [wN hc] at h
   obtain ⟨v,hv,rfl⟩:=Option.map_eq_some_iff.1 h;have:=tM m s v (by simpa using hm) hv;simp; omega
def rdQ (out:B8):Option B8→(Unit×abf×B8×Unit) ⊕ (B8×Bool×Unit)
 | none => .inr ([],false,())
 | some t => .inl ((),((),(),()),out ++ t,())
theorem KL (out:B8) (x:UInt8) (o:Option B8):rdQ out (o.map (x :: ·))=rdQ (out ++ [x]) o:=by
 cases o with
 | none=>rfl
 | some t=>simp [rdQ]
def PJ (out:B8):Option B8→(B8×Unit) ⊕ (B8×Bool×Unit)
 | none => .inr ([],false,())
 | some t => .inl (out ++ t,())
theorem G7 (out:B8) (x:UInt8) (o:Option B8):PJ out (o.map (x :: ·))=PJ (out ++ [x]) o:=by
 cases o with
 | none=>rfl
 | some t=>simp [PJ]
theorem P8 : ∀ a b:Fin 16,IntKind.u8.wrap (ior .i64 (shl .i64 ((a.val:Nat):Int) 4) ((b.val:Nat):Int))=((16 * a.val+b.val:Nat):Int):=by decide +kernel
theorem byte_at {a b:UInt8} (ha:0≤dgt a) (hb:0≤dgt b):IntKind.u8.wrap (ior .i64 (shl .i64 (dgt a) 4) (dgt b))=((16 * (dgt a).toNat+(dgt b).toNat:Nat):Int):=by
 have h1:=E6 a;have h2:=E6 b;have:=P8 ⟨(dgt a).toNat,by omega⟩ ⟨(dgt b).toNat,by omega⟩;simp only [Int.toNat_of_nonneg ha,Int.toNat_of_nonneg hb] at this;exact this
theorem N4 {a b:UInt8} (ha:0≤dgt a) (hb:0≤dgt b):IntKind.u8.wrap (IntKind.i64.wrap (IntKind.i64.wrap (dgt a * 16)+dgt b))=((16 * (dgt a).toNat+(dgt b).toNat:Nat):Int):=by
 have h1:=E6 a;have h2:=E6 b;rw [wrap64 (dgt a * 16) (by omega) (by omega),wrap64 _ (by omega) (by omega),O6 _ (by omega)];omega
theorem Rh (k j:Nat) (h:k+j≤1000000):IntKind.i64.wrap ((k:Int)+(j:Int))=((k+j:Nat):Int):=by rw [wrap64] <;> omega
theorem ur (k:Nat) (h:k≤1000000):IntKind.i64.wrap ((k:Int)+1)=((k+1:Nat):Int):=gp k (by omega)
theorem vh (k:Nat) (h:k≤900000):IntKind.i64.wrap ((k:Int)+2)=((k+2:Nat):Int):=Rh k 2 (by omega)
theorem yj (s:B8) (hs:s.length≤1000) : ∀ (m k:Nat) (out:B8),s.length - k≤m→k≤s.length→out.length+(s.length - k)≤5000 →
  af eJ (s,(),(k:Int),((),(),()),out,()) (rdQ out (gY (s.drop k)))
 | m,k,out,hm,hk,ho=>by
  by_cases aM:k<s.length
  ·have hx:=vq s k (k:Int) rfl aM
   have hd:=List.drop_eq_getElem_cons aM;cases m with
   | zero=>omega
   | succ m =>
   by_cases hc:s[k]=37
   ·by_cases h2:k+2<s.length
    ·have xu:=vq s (k+1) ((k+1:Nat):Int) rfl (by omega)
     have FQ:=vq s (k+2) ((k+2:Nat):Int) rfl h2;have Ny:=List.drop_eq_getElem_cons (show k+1<s.length by omega);have Qn:=List.drop_eq_getElem_cons h2;rw [hd,Ny,Qn,hc,zM];by_cases ha:0≤dgt s[k+1]
     ·by_cases hb:0≤dgt s[k+2]
      ·rw [if_pos ⟨ha,hb⟩,KL]
       refine af.step (.of fun F => ?_) (yj s hs m (k+3) (out ++ [byteOf s[k+1] s[k+2]]) (by omega) (by omega) (by simp; omega));unfold eJ;refine (if_pos (by simp; omega)).trans ?_;refine bP (a := .inl (s,(),((k+2:Nat):Int),((),(),()),out ++ [byteOf s[k+1] s[k+2]],())) ?_ ?_
       ·refine bP hx ?_
        rw [if_neg (by simp [hc])];refine bP (a:=(s,(),(k:Int),false,((),(),()),out,())) ?_ (bP (a:=(s,(),(k:Int),false,((),(),()),out,())) ?_ ?_)
        ·rw [if_pos (by rw [vh k (by omega)]; simp; omega)]
         simp only [ur k (by omega),xu,abo,pq];rw [abu (by omega)]
        ·rw [if_pos rfl]
         simp only [vh k (by omega),FQ,abo,pq];rw [abu (by omega)]
        ·rw [if_neg (by simp)]
         simp only [ur k (by omega),vh k (by omega),xu,FQ,abo,pq,byte_at ha hb,nD F out _ (by omega),Int.toNat_natCast];rfl
       ·simp only [cg]
        rw [ur (k+2) (by omega)]
      ·rw [if_neg (by rintro ⟨_,h⟩; exact hb h)]
       refine af.fin (.of fun F => ?_);unfold eJ;refine (if_pos (by simp; omega)).trans ?_;refine bP (a := .inr ([],false,())) ?_ rfl;refine bP hx ?_;rw [if_neg (by simp [hc])];refine bP (a:=(s,(),(k:Int),false,((),(),()),out,())) ?_ (bP (a:=(s,(),(k:Int),true,((),(),()),out,())) ?_ (if_pos rfl))
       ·rw [if_pos (by rw [vh k (by omega)]; simp; omega)]
        simp only [ur k (by omega),xu,abo,pq];rw [abu (by omega)]
       ·rw [if_pos rfl]
        simp only [vh k (by omega),FQ,abo,pq];rw [abt (by omega)]
     ·rw [if_neg (by rintro ⟨h,_⟩; exact ha h)]
      refine af.fin (.of fun F => ?_);unfold eJ;refine (if_pos (by simp; omega)).trans ?_;refine bP (a := .inr ([],false,())) ?_ rfl;refine bP hx ?_;rw [if_neg (by simp [hc])];refine bP (a:=(s,(),(k:Int),true,((),(),()),out,())) ?_ (bP (a:=(s,(),(k:Int),true,((),(),()),out,())) (if_neg (by simp)) (if_pos rfl));rw [if_pos (by rw [vh k (by omega)]; simp; omega)];simp only [ur k (by omega),xu,abo,pq];rw [abt (by omega)]
    ·rw [hd,hc,oB (by simp; omega)]
     refine af.fin (.of fun F => ?_);unfold eJ;refine (if_pos (by simp; omega)).trans ?_;refine bP (a := .inr ([],false,())) ?_ rfl;refine bP hx ?_;rw [if_neg (by simp [hc])];refine bP (a:=(s,(),(k:Int),true,((),(),()),out,())) (if_neg ?_) (bP (a:=(s,(),(k:Int),true,((),(),()),out,())) (if_neg (by simp)) (if_pos rfl));rw [vh k (by omega)];simp;omega
   ·rw [hd,wN hc,KL]
    refine af.step (.of fun F => ?_) (yj s hs m (k+1) (out ++ [s[k]]) (by omega) (by omega) (by simp; omega));unfold eJ;refine (if_pos (by simp; omega)).trans ?_;refine bP (a := .inl (s,(),(k:Int),((),(),()),out ++ [s[k]],())) ?_ ?_
    ·refine bP hx ?_
     have vG : ¬ ((s[k].toNat:Int)=37):=fun h=>hc (UInt8.toNat_inj.1 (by show s[k].toNat=37; omega))
     rw [if_pos (by simpa using vG)];simp only [hx,abo,nD F out _ (by omega),byte_back]
    ·simp only [cg]
     rw [ur k (by omega)]
  ·have:k=s.length:=by omega
   subst this;rw [List.drop_eq_nil_of_le (Nat.le_refl _),pE];refine af.fin (.of fun F => ?_);unfold eJ;refine (if_neg (by simp)).trans ?_;simp [rdQ]
def jP (s:B8):B8×Bool:=match gY s with
 | none=>([],false)
 | some t=>(t,decide (t = []) || nB t 60)
theorem u5 {s:B8} (h:gY s=none):jP s=([],false):=by unfold jP; rw [h]
theorem kc {s t:B8} (h:gY s=some t):jP s=(t,decide (t = []) || nB t 60):=by unfold jP; rw [h]
theorem JU (s:B8) (hs:s.length≤1000):ae (fun F=>mQ F s) (jP s):=by
 unfold mQ;have hl:=yj s hs _ 0 [] (Nat.le_refl _) (by omega) (by simp; omega);rw [List.drop_zero] at hl;refine ae.bind hl.run ?_;cases hr:gY s with
 | none =>
  rw [u5 hr];exact .ret _
 | some t =>
  rw [kc hr];simp only [rdQ,cg,List.nil_append];refine ae.bind (r:=(t,((),(),()))) (.of fun F=>rfl) ?_;by_cases h0:t = []
  ·refine ae.bind (r:=(t,true,())) (.of fun F=>if_neg (by simp [h0])) ?_
   rw [abt h0,Bool.true_or];exact .ret _
  ·refine ae.bind (r:=(t,nB t 60,())) (ae.pos (by simpa using h0) (ae.bind (GJ t 60) (.ret _))) ?_
   rw [abu h0,Bool.false_or];exact .ret _
theorem u4 (s:B8) (hs:s.length≤1000) : ∀ (m k:Nat) (out:B8),s.length - k≤m→k≤s.length→out.length+(s.length - k)≤5000 →
  af bt (s,out,(k:Int),()) (PJ out (gY (s.drop k)))
 | m,k,out,hm,hk,ho=>by
  by_cases aM:k<s.length
  ·have hx:=vq s k (k:Int) rfl aM
   have hd:=List.drop_eq_getElem_cons aM;cases m with
   | zero=>omega
   | succ m =>
   by_cases hc:s[k]=37
   ·by_cases h2:k+2<s.length
    ·have xu:=vq s (k+1) ((k+1:Nat):Int) rfl (by omega)
     have FQ:=vq s (k+2) ((k+2:Nat):Int) rfl h2;have Ny:=List.drop_eq_getElem_cons (show k+1<s.length by omega);have Qn:=List.drop_eq_getElem_cons h2;rw [hd,Ny,Qn,hc,zM];by_cases ha:0≤dgt s[k+1]
     ·by_cases hb:0≤dgt s[k+2]
      ·rw [if_pos ⟨ha,hb⟩,G7]
       refine af.step (.of fun F => ?_) (u4 s hs m (k+3) (out ++ [byteOf s[k+1] s[k+2]]) (by omega) (by omega) (by simp; omega));unfold bt;refine (if_pos (by simp; omega)).trans ?_;refine bP (a := .inl (s,out ++ [byteOf s[k+1] s[k+2]],((k+2:Nat):Int),())) ?_ ?_
       ·refine bP hx ?_
        rw [if_neg (by simp [hc])];refine bP (a:=(s,out,(k:Int),false,())) ?_ (bP (a:=(s,out,(k:Int),false,())) ?_ ?_)
        ·rw [if_pos (by rw [vh k (by omega)]; simp; omega)]
         simp only [ur k (by omega),xu,abo,nk];rw [abu (by omega)]
        ·rw [if_pos rfl]
         simp only [vh k (by omega),FQ,abo,nk];rw [abu (by omega)]
        ·rw [if_neg (by simp)]
         simp only [ur k (by omega),vh k (by omega),xu,FQ,abo,nk,N4 ha hb,Int.toNat_natCast];rw [if_pos (by simp; omega),abo];simp only [vh k (by omega)];rfl
       ·simp only [cg]
        rw [ur (k+2) (by omega)]
      ·rw [if_neg (by rintro ⟨_,h⟩; exact hb h)]
       refine af.fin (.of fun F => ?_);unfold bt;refine (if_pos (by simp; omega)).trans ?_;refine bP (a := .inr ([],false,())) ?_ rfl;refine bP hx ?_;rw [if_neg (by simp [hc])];refine bP (a:=(s,out,(k:Int),false,())) ?_ (bP (a:=(s,out,(k:Int),true,())) ?_ (if_pos rfl))
       ·rw [if_pos (by rw [vh k (by omega)]; simp; omega)]
        simp only [ur k (by omega),xu,abo,nk];rw [abu (by omega)]
       ·rw [if_pos rfl]
        simp only [vh k (by omega),FQ,abo,nk];rw [abt (by omega)]
     ·rw [if_neg (by rintro ⟨h,_⟩; exact ha h)]
      refine af.fin (.of fun F => ?_);unfold bt;refine (if_pos (by simp; omega)).trans ?_;refine bP (a := .inr ([],false,())) ?_ rfl;refine bP hx ?_;rw [if_neg (by simp [hc])];refine bP (a:=(s,out,(k:Int),true,())) ?_ (bP (a:=(s,out,(k:Int),true,())) (if_neg (by simp)) (if_pos rfl));rw [if_pos (by rw [vh k (by omega)]; simp; omega)];simp only [ur k (by omega),xu,abo,nk];rw [abt (by omega)]
    ·rw [hd,hc,oB (by simp; omega)]
     refine af.fin (.of fun F => ?_);unfold bt;refine (if_pos (by simp; omega)).trans ?_;refine bP (a := .inr ([],false,())) ?_ rfl;refine bP hx ?_;rw [if_neg (by simp [hc])];refine bP (a:=(s,out,(k:Int),true,())) (if_neg ?_) (bP (a:=(s,out,(k:Int),true,())) (if_neg (by simp)) (if_pos rfl));rw [vh k (by omega)];simp;omega
   ·rw [hd,wN hc,G7]
    refine af.step (.of fun F => ?_) (u4 s hs m (k+1) (out ++ [s[k]]) (by omega) (by omega) (by simp; omega));unfold bt;refine (if_pos (by simp; omega)).trans ?_;refine bP (a := .inl (s,out ++ [s[k]],(k:Int),())) ?_ ?_
    ·refine bP hx ?_
     have vG : ¬ ((s[k].toNat:Int)=37):=fun h=>hc (UInt8.toNat_inj.1 (by show s[k].toNat=37; omega))
     rw [if_pos (by simpa using vG)];have jL:sub s (k:Int) ((k+1:Nat):Int)=some [s[k]]:=by
      rw [TQ s k (k+1) (by omega) (by omega),hd,show k+1 - k=1 by omega];rfl
     refine bP (a := [s[k]]) (by rw [ur k (by omega)]; exact jL) ?_;rw [if_pos (by simp; omega)]
    ·simp only [cg]
     rw [ur k (by omega)]
  ·have:k=s.length:=by omega
   subst this;rw [List.drop_eq_nil_of_le (Nat.le_refl _),pE];refine af.fin (.of fun F => ?_);unfold bt;refine (if_neg (by simp)).trans ?_;simp [PJ]
theorem Hx (s:B8) (hs:s.length≤1000):ae (fun F=>gr F s) (jP s):=by
 unfold gr;have hl:=u4 s hs _ 0 [] (Nat.le_refl _) (by omega) (by simp; omega);rw [List.drop_zero] at hl;refine ae.bind hl.run ?_;cases hr:gY s with
 | none =>
  rw [u5 hr];exact .ret _
 | some t =>
  have ht:=tM _ s t (Nat.le_refl _) hr;rw [kc hr];by_cases h0:t = []
  ·refine ae.bind (r:=(t,true,())) (.of fun F=>if_neg (by simp [h0])) ?_
   rw [abt h0,Bool.true_or];exact .ret _
  ·refine ae.bind (r:=(t,nB t 60,())) (ae.pos (by simpa using h0) (ae.bind (Af t (by omega) 60) (.ret _))) ?_
   rw [abu h0,Bool.false_or];exact .ret _
def wr1 (c:UInt8):B8:=if lr c=true then [c] else [37,sC (c.toNat / 16),sC (c.toNat % 16)]
def cG (s:B8):B8:=s.flatMap wr1
theorem Fg (c:UInt8):(wr1 c).length≤3:=by unfold wr1; split <;> simp
theorem Am (s:B8):(cG s).length≤3 * s.length:=by
 unfold cG;induction s with
 | nil=>simp
 | cons c s ih=>rw [List.flatMap_cons,abr,abp]; have:=Fg c; omega
theorem Q8 : ∀ c:Fin 256,shr .u8 ((c.val:Nat):Int) 4=((c.val / 16:Nat):Int)∧oY .u8 ((c.val:Nat):Int) 15=((c.val % 16:Nat):Int):=by decide +kernel
theorem zc (s:B8) (hs:s.length≤1000) : ∀ (m k:Nat) (out:B8),k+m=s.length→out.length+3 * m≤50000 →
  af jq (s,(),(s.length:Int),(k:Int),((),(),()),out,()) ((),((),(),()),out ++ cG (s.drop k),())
 | 0,k,out,h,ho=>by
  refine af.fin (.of fun F => ?_);unfold jq;refine (if_neg (by simp; omega)).trans ?_;rw [List.drop_eq_nil_of_le (by omega)];simp [cG]
 | m+1,k,out,h,ho=>by
  have hk:k<s.length:=by omega
  have hx:=vq s k (k:Int) rfl hk;have hw:=Fg s[k];rw [List.drop_eq_getElem_cons hk];have e:out ++ cG (s[k] :: s.drop (k+1))=(out ++ wr1 s[k]) ++ cG (s.drop (k+1)):=by unfold cG; rw [List.flatMap_cons,List.append_assoc]
  rw [e];refine af.step (.of fun F => ?_) (zc s hs m (k+1) (out ++ wr1 s[k]) (by omega) (by simp; omega));unfold jq;refine (if_pos (by simp; omega)).trans ?_;refine bP (a:=(s,(),(s.length:Int),(k:Int),((),(),()),out ++ wr1 s[k],())) ?_ ?_
  ·refine bP hx (bP (Px F s[k]) ?_)
   cases hp:lr s[k]
   ·rw [if_neg (by simp)]
    have ht:=Q8 ⟨s[k].toNat,s[k].toNat_lt⟩;have hn:s[k].toNat<256:=s[k].toNat_lt;simp only at ht;simp only [nD F out _ (by omega),abo,hx,ht.1,ht.2,He _ (show s[k].toNat / 16<16 by omega),He _ (show s[k].toNat % 16<16 by omega)];rw [nD F _ _ (by simp; omega)];simp only [abo];rw [nD F _ _ (by simp; omega)];simp only [abo,byte_back];unfold wr1;rw [hp,if_neg (by simp)];simp
   ·rw [if_pos rfl]
    simp only [hx,abo,nD F out _ (by omega),byte_back];unfold wr1;rw [hp,if_pos rfl]
  ·simp only
   rw [ur k (by omega)]
theorem Et (s:B8) (hs:s.length≤1000):ae (fun F=>lE F s) (cG s):=by
 unfold lE;have hl:=zc s hs s.length 0 [] (by omega) (by simp; omega);rw [List.drop_zero,List.nil_append] at hl;exact ae.bind hl.run (.of fun F=>rfl)
theorem yL (s:B8) (hs:s.length≤1000) : ∀ (m k:Nat) (out:B8),k+m=s.length→out.length+3 * m≤50000 →
  af eM (s,out,(k:Int),()) (out ++ cG (s.drop k),())
 | 0,k,out,h,ho=>by
  refine af.fin (.of fun F => ?_);unfold eM;refine (if_neg (by simp; omega)).trans ?_;rw [List.drop_eq_nil_of_le (by omega)];simp [cG]
 | m+1,k,out,h,ho=>by
  have hk:k<s.length:=by omega
  have hx:=vq s k (k:Int) rfl hk;have hw:=Fg s[k];have hd:=List.drop_eq_getElem_cons hk;have jL:sub s (k:Int) ((k+1:Nat):Int)=some [s[k]]:=by
   rw [TQ s k (k+1) (by omega) (by omega),hd,show k+1 - k=1 by omega];rfl
  rw [hd];have e:out ++ cG (s[k] :: s.drop (k+1))=(out ++ wr1 s[k]) ++ cG (s.drop (k+1)):=by unfold cG; rw [List.flatMap_cons,List.append_assoc]
  rw [e];refine af.step (.of fun F => ?_) (yL s hs m (k+1) (out ++ wr1 s[k]) (by omega) (by simp; omega));unfold eM;refine (if_pos (by simp; omega)).trans ?_;refine bP (a:=(s,out ++ wr1 s[k],(k:Int),())) ?_ ?_
  ·refine bP hx ?_
   have hn:s[k].toNat<256:=s[k].toNat_lt;have hI:lr s[k]=Ap s[k].toNat:=rfl;have hW:wr1 s[k]=if lr s[k]=true then [s[k]] else [37,sC (s[k].toNat / 16),sC (s[k].toNat % 16)]:=rfl
   rw [hW,hI];generalize hg:s[k].toNat=n at hn;obtain ⟨b1,h1⟩ : ∃ b,b=decide (65≤n∧n≤90):=⟨_,rfl⟩
   obtain ⟨b2,h2⟩ : ∃ b,b=(b1 || decide (97≤n∧n≤122)):=⟨_,rfl⟩
   obtain ⟨b3,h3⟩ : ∃ b,b=(b2 || decide (48≤n∧n≤57)):=⟨_,rfl⟩
   obtain ⟨b4,h4⟩ : ∃ b,b=(b3 || decide ((n:Int)=45)):=⟨_,rfl⟩
   obtain ⟨b5,h5⟩ : ∃ b,b=(b4 || decide ((n:Int)=46)):=⟨_,rfl⟩
   obtain ⟨b6,h6⟩ : ∃ b,b=(b5 || decide ((n:Int)=95)):=⟨_,rfl⟩
   obtain ⟨b7,h7⟩ : ∃ b,b=(b6 || decide ((n:Int)=126)):=⟨_,rfl⟩
   have hp:Ap n=b7:=by
    unfold Ap;rw [h7,h6,h5,h4,h3,h2,h1,Bool.eq_iff_iff];simp only [abn,Bool.or_eq_true];omega
   have dn : ∀ a b:Nat,(if decide (((a:Nat):Int)≤(n:Int))=true then some (s,out,(k:Int),(n:Int),decide ((n:Int)≤((b:Nat):Int)),()) else some (s,out,(k:Int),(n:Int),false,()))=some (s,out,(k:Int),(n:Int),decide (a≤n∧n≤b),()):=by
    intro a b;by_cases ha:a≤n
    ·rw [if_pos (abt (by omega))]
     simp only [Option.some.injEq,Prod.mk.injEq,true_and,and_true,decide_eq_decide];omega
    ·rw [if_neg (by simp; omega),abu (by omega)]
   refine bP (a:=(s,out,(k:Int),(n:Int),b1,())) (by rw [h1]; exact dn 65 90) ?_;refine bP (a:=(s,out,(k:Int),(n:Int),b2,())) (by cases b1 <;> rw [h2] <;> first | exact (if_pos rfl).trans (dn 97 122) | exact if_neg (by simp)) ?_;refine bP (a:=(s,out,(k:Int),(n:Int),b3,())) (by cases b2 <;> rw [h3] <;> first | exact (if_pos rfl).trans (dn 48 57) | exact if_neg (by simp)) ?_;refine bP (a:=(s,out,(k:Int),(n:Int),b4,())) (by cases b3 <;> rw [h4] <;> first | exact if_pos rfl | exact if_neg (by simp)) ?_;refine bP (a:=(s,out,(k:Int),(n:Int),b5,())) (by cases b4 <;> rw [h5] <;> first | exact if_pos rfl | exact if_neg (by simp)) ?_;refine bP (a:=(s,out,(k:Int),(n:Int),b6,())) (by cases b5 <;> rw [h6] <;> first | exact if_pos rfl | exact if_neg (by simp)) ?_;refine bP (a:=(s,out,(k:Int),(n:Int),b7,())) (by cases b6 <;> rw [h7] <;> first | exact if_pos rfl | exact if_neg (by simp)) ?_;rw [hp];cases b7
   ·simp only [abq,if_false]
    rw [if_pos (by simp; omega)];have w1:IntKind.i64.wrap (n:Int)=(n:Int):=wrap64 _ (by omega) (by omega);have w2:IntKind.i64.wrap ((n:Int).tdiv 16)=((n / 16:Nat):Int):=by
     rw [Int.tdiv_eq_ediv_of_nonneg (by omega),wrap64 _ (by omega) (by omega)];omega
    have w3:(n:Int).tmod 16=((n % 16:Nat):Int):=by
     rw [Int.tmod_eq_emod_of_nonneg (by omega)];omega
    simp only [w1,w2,w3,Oi F _ (show n / 16<16 by omega),Oi F _ (show n % 16<16 by omega),abo];rw [if_pos (by simp; omega),if_pos (by simp; omega)];simp
   ·rw [if_pos rfl,if_pos rfl]
    refine bP (a := [s[k]]) (by rw [ur k (by omega)]; exact jL) ?_;rw [if_pos (by simp; omega)]
  ·simp only
   rw [ur k (by omega)]
theorem Fz (s:B8) (hs:s.length≤1000):ae (fun F=>fR F s) (cG s):=by
 unfold fR;have hl:=yL s hs s.length 0 [] (by omega) (by simp; omega);rw [List.drop_zero,List.nil_append] at hl;exact ae.bind hl.run (.of fun F=>rfl)
end Go.Vm
