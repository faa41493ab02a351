import Derived.Test.YtihpjgcbmipdbaaGreatDoorFcanon
import Derived.Test.YtihpjgcbmipdbaaGreatDoorFref5
import Derived.Test.YtihpjgcbmipdbaaGreatDoorPrt
import Derived.Test.YtihpjgcbmipdbaaGreatDoorPj2
/- Letters, digits, plain bytes, methods and keys: plain. No condition. -/
namespace Go.Vm
open Go Go.Proofs
set_option linter.unusedVariables false
theorem JY (n:Int) (h:0≤n):IntKind.u8.wrap n=n % 256:=by
 simp only [IntKind.wrap,IntKind.signed,IntKind.bits]
 simp
def upN (n:Nat):Nat:=if 97≤n∧n≤122 then n - 32 else n
def upC (c:UInt8):UInt8:=UInt8.ofNat (upN c.toNat)
def isL (c:UInt8):Bool:=decide (65≤upN c.toNat∧upN c.toNat≤90)
def Ml (n:Nat):Int:=if 48≤n∧n≤57 then (n:Int) - 48 else if 65≤n∧n≤70 then (n:Int) - 55 else if 97≤n∧n≤102 then (n:Int) - 87 else -1
def dgt (c:UInt8):Int:=Ml c.toNat
def vY (n:Nat):Bool:=decide ((65≤n∧n≤90)∨(97≤n∧n≤122)∨(48≤n∧n≤57)∨n=45∨n=46∨n=95∨n=126)
def kv (c:UInt8):Bool:=vY c.toNat
def xV (n:Nat):UInt8:=UInt8.ofNat (if n<10 then 48+n else 55+n)
theorem DE : ∀ c:Fin 256,fI 0 ((c.val:Nat):Int)=some (((upN c.val:Nat):Int),decide (65≤upN c.val∧upN c.val≤90)):=by decide +kernel
theorem G3 : ∀ c:Fin 256,fB 0 ((c.val:Nat):Int)=some (Ml c.val):=by decide +kernel
theorem EC : ∀ c:Fin 256,bw 0 ((c.val:Nat):Int)=some (Ml c.val):=by decide +kernel
theorem HF : ∀ c:Fin 256,jZ 0 ((c.val:Nat):Int)=some (vY c.val):=by decide +kernel
theorem KV : ∀ c:Fin 16,dW 0 ((c.val:Nat):Int)=some [xV c.val]:=by decide +kernel
theorem HX : ∀ c:Fin 16,idx ([48,49,50,51,52,53,54,55,56,57,65,66,67,68,69,70]:B8) ((c.val:Nat):Int)=some (xV c.val):=by decide +kernel
theorem zi (F:Nat) (c:UInt8):fI F (c.toNat:Int)=some (((upN c.toNat:Nat):Int),isL c):=DE ⟨c.toNat,c.toNat_lt⟩
theorem mL (F:Nat) (c:UInt8):fB F (c.toNat:Int)=some (dgt c):=G3 ⟨c.toNat,c.toNat_lt⟩
theorem kX (F:Nat) (c:UInt8):bw F (c.toNat:Int)=some (dgt c):=EC ⟨c.toNat,c.toNat_lt⟩
theorem Jr (F:Nat) (c:UInt8):jZ F (c.toNat:Int)=some (kv c):=HF ⟨c.toNat,c.toNat_lt⟩
theorem JQ (F n:Nat) (h:n<16):dW F (n:Int)=some [xV n]:=KV ⟨n,h⟩
theorem CJ (n:Nat) (h:n<16):idx ([48,49,50,51,52,53,54,55,56,57,65,66,67,68,69,70]:B8) (n:Int)=some (xV n):=HX ⟨n,h⟩
theorem Bo (c:UInt8) : -1≤dgt c∧dgt c≤15:=by unfold dgt Ml; have:=c.toNat_lt; repeat' split
                                             all_goals omega
theorem byte_back (c:UInt8):UInt8.ofNat ((c.toNat:Int)).toNat=c:=by simp
theorem G7 (c:UInt8):UInt8.ofNat ((upN c.toNat:Nat):Int).toNat=upC c:=by simp [upC]
theorem lr (F:Nat) (l:B8) (n:Int) (hl:l.length≤1000000000000):aw F (((),l,()),n)=some ((),((),l ++ [UInt8.ofNat n.toNat],())):=by
 have h1:bF F ((),l,())=some ((),((),l,())):=rfl
 unfold aw
 simp only [h1,Option.bind_some]
 rw [if_pos (by simp; omega)]
 rfl
theorem bd {α β:Type} {x:Option α} {a:α} {f:α→Option β} {r:Option β} (h:x=some a) (h2:f a=r):x.bind f=r:=by rw [h]; exact h2
/-! ### methods -/
def uU (out rest:B8):(Unit×(Unit×Unit×Unit)×B8×Unit) ⊕ (B8×Bool×Unit):=if rest.all isL=true then .inl ((),((),(),()),out ++ rest.map upC,()) else .inr ([],false,())
theorem K7 {c:UInt8} {rest out:B8} (h:isL c=true):uU out (c :: rest)=uU (out ++ [upC c]) rest:=by
 unfold uU
 rw [List.all_cons,h,Bool.true_and,List.map_cons,List.append_assoc,List.singleton_append]
theorem Ln {c:UInt8} {rest out:B8} (h:isL c=false):uU out (c :: rest) = .inr ([],false,()):=by
 unfold uU
 rw [List.all_cons,h,Bool.false_and]
 rfl
theorem zt (s:B8) (hs:s.length≤1000) : ∀ (m k:Nat) (out:B8),k+m=s.length→out.length+m≤5000 →
  af fj (s,(),(s.length:Int),(k:Int),((),(),()),out,()) (uU out (s.drop k))
 | 0,k,out,h,ho=>by
  refine af.fin (.of fun F => ?_)
  unfold fj
  refine (if_neg (by simp; omega)).trans ?_
  rw [List.drop_eq_nil_of_le (by omega)]
  simp [uU]
 | m+1,k,out,h,ho=>by
  have hk:k<s.length:=by omega
  have hx:=sA s k (k:Int) rfl hk
  rw [List.drop_eq_getElem_cons hk]
  cases hl:isL s[k]
  ·refine af.fin (.of fun F => ?_)
   unfold fj
   refine (if_pos (by simp; omega)).trans ?_
   simp only [hx,Option.bind_some,zi,hl]
   rw [Ln hl]
   rfl
  ·have ih:=zt s hs m (k+1) (out ++ [upC s[k]]) (by omega) (by simp; omega)
   rw [K7 hl]
   refine af.step (.of fun F => ?_) ih
   unfold fj
   refine (if_pos (by simp; omega)).trans ?_
   simp only [hx,Option.bind_some,zi,hl,lr F out _ (by omega),G7]
   rw [if_neg (by simp),ig k (by omega)]
def cL (s:B8):B8×Bool:=if s = []∨8<s.length then ([],false) else if s.all isL=true then (s.map upC,true) else ([],false)
theorem qI {s:B8} (h:s = []∨8<s.length):cL s=([],false):=by unfold cL; rw [if_pos h]
theorem Ds {s:B8} (h : ¬ (s = []∨8<s.length)):cL s=if s.all isL=true then (s.map upC,true) else ([],false):=by unfold cL; rw [if_neg h]
theorem Et (s:B8):ae (fun F=>jf F s) (cL s):=by
 unfold jf
 by_cases h0:s = []
 ·rw [qI (.inl h0)]
  refine ae.bind (r:=(s,true,())) (.of fun F=>if_neg (by simpa using h0)) (ae.pos rfl (.ret _))
 by_cases h8:8<s.length
 ·rw [qI (.inr h8)]
  refine ae.bind (r:=(s,true,())) (.of fun F=>(if_pos (by simpa using h0)).trans ?_) (ae.pos rfl (.ret _))
  rw [decide_eq_true (by omega)]
 rw [Ds (by rintro (h | h) <;> contradiction)]
 refine ae.bind (r:=(s,false,())) (.of fun F=>(if_pos (by simpa using h0)).trans ?_) (ae.neg (by simp) ?_)
 ·rw [decide_eq_false (by omega)]
 have hl:=zt s (by omega) s.length 0 [] (by omega) (by simp; omega)
 rw [List.drop_zero] at hl
 refine ae.bind hl.run ?_
 unfold uU
 split
 ·exact .ret _
 ·exact .ret _
def pv (out rest:B8):(B8×Unit) ⊕ (B8×Bool×Unit):=if rest.all isL=true then .inl (out ++ rest.map upC,()) else .inr ([],false,())
theorem wc (F:Nat) (s:B8) (hs:s.length≤1000) (k:Nat) (hk:k<s.length) (out:B8) (ho:out.length≤5000) :
  bV F (s,out,(k:Int),())=if isL s[k]=true then some (.inl (s,out ++ [upC s[k]],((k+1:Nat):Int),())) else some (.inr (.inr ([],false,()))):=by
 have hx:=sA s k (k:Int) rfl hk
 unfold bV
 refine (if_pos (by simp; omega)).trans ?_
 simp only [hx,Option.bind_some]
 have hn:s[k].toNat<256:=s[k].toNat_lt
 have hU:upC s[k]=UInt8.ofNat (upN s[k].toNat):=rfl
 have hI:isL s[k]=decide (65≤upN s[k].toNat∧upN s[k].toNat≤90):=rfl
 rw [hU,hI]
 generalize s[k].toNat=n at hn
 refine bd (a:=(s,out,(k:Int),(n:Int),decide ((97:Int)≤(n:Int)∧(n:Int)≤122),())) ?_ (bd (a:=(s,out,(k:Int),((upN n:Nat):Int),())) ?_ ?_)
 ·by_cases h1:(97:Int)≤(n:Int)
  ·simp [h1]
  ·simp [h1]
 ·unfold upN
  by_cases h1:97≤n∧n≤122
  ·rw [if_pos (decide_eq_true (by omega)),if_pos h1,JY _ (by simp only; omega)]
   simp only [Option.some.injEq,Prod.mk.injEq,true_and,and_true]
   omega
  ·rw [if_neg (by simpa using by omega),if_neg h1]
 generalize upN n=u
 refine bd (a:=(s,out,(k:Int),(u:Int),decide (¬ (65≤u∧u≤90)),())) ?_ ?_
 ·by_cases h3:(u:Int)<65
  ·rw [if_neg (by simpa using h3)]
   have : ¬ (65≤u∧u≤90):=by omega
   simp [this]
  ·rw [if_pos (by simpa using h3)]
   simp only [Option.some.injEq,Prod.mk.injEq,true_and,and_true,decide_eq_decide]
   omega
 ·by_cases h5:65≤u∧u≤90
  ·rw [if_neg (by simp [h5]),if_pos (decide_eq_true h5),if_pos (by simp; omega),ig k (by omega)]
   rfl
  ·rw [if_pos (decide_eq_true h5),if_neg (by simpa using h5)]
theorem JR {c:UInt8} {rest out:B8} (h:isL c=true):pv out (c :: rest)=pv (out ++ [upC c]) rest:=by
 unfold pv
 rw [List.all_cons,h,Bool.true_and,List.map_cons,List.append_assoc,List.singleton_append]
theorem Ir {c:UInt8} {rest out:B8} (h:isL c=false):pv out (c :: rest) = .inr ([],false,()):=by
 unfold pv
 rw [List.all_cons,h,Bool.false_and]
 rfl
theorem wY (s:B8) (hs:s.length≤1000) : ∀ (m k:Nat) (out:B8),k+m=s.length→out.length+m≤5000 →
  af bV (s,out,(k:Int),()) (pv out (s.drop k))
 | 0,k,out,h,ho=>by
  refine af.fin (.of fun F => ?_)
  unfold bV
  refine (if_neg (by simp; omega)).trans ?_
  rw [List.drop_eq_nil_of_le (by omega)]
  simp [pv]
 | m+1,k,out,h,ho=>by
  have hk:k<s.length:=by omega
  rw [List.drop_eq_getElem_cons hk]
  cases hl:isL s[k]
  ·refine af.fin (.of fun F => ?_)
   rw [wc F s hs k hk out (by omega),hl,if_neg (by simp),Ir hl]
  ·have ih:=wY s hs m (k+1) (out ++ [upC s[k]]) (by omega) (by simp; omega)
   rw [JR hl]
   refine af.step (.of fun F => ?_) ih
   rw [wc F s hs k hk out (by omega),hl,if_pos rfl]
theorem vd (s:B8):ae (fun F=>cR F s) (cL s):=by
 unfold cR
 by_cases h0:s = []
 ·rw [qI (.inl h0)]
  refine ae.bind (r:=(s,true,())) (.of fun F=>if_neg (by simp [h0])) (ae.pos rfl (.ret _))
 have hl0:0<s.length:=List.length_pos_iff.2 h0
 by_cases h8:8<s.length
 ·rw [qI (.inr h8)]
  refine ae.bind (r:=(s,true,())) (.of fun F=>(if_pos (by simp; omega)).trans ?_) (ae.pos rfl (.ret _))
  rw [decide_eq_true (by omega)]
 rw [Ds (by rintro (h | h) <;> contradiction)]
 refine ae.bind (r:=(s,false,())) (.of fun F=>(if_pos (by simp; omega)).trans ?_) (ae.neg (by simp) ?_)
 ·rw [decide_eq_false (by omega)]
 have hl:=wY s (by omega) s.length 0 [] (by omega) (by simp; omega)
 rw [List.drop_zero] at hl
 refine ae.bind hl.run ?_
 unfold pv
 split
 ·exact .ret _
 ·exact .ret _
theorem Ey : ∀ c:Fin 256,upN (upN c.val)=upN c.val∧upN c.val<256:=by decide +kernel
theorem Ft (c:UInt8):(upC c).toNat=upN c.toNat:=by
 have:=(Ey ⟨c.toNat,c.toNat_lt⟩).2
 simp only at this
 simp [upC]
 omega
theorem M4 (c:UInt8):upC (upC c)=upC c:=by
 have:=(Ey ⟨c.toNat,c.toNat_lt⟩).1
 simp only at this
 unfold upC
 have e:=Ft c
 unfold upC at e
 rw [e,this]
theorem MU (c:UInt8):isL (upC c)=isL c:=by
 have:=(Ey ⟨c.toNat,c.toNat_lt⟩).1
 simp only at this
 unfold isL
 rw [Ft,this]
theorem CL (s:B8) (h:(cL s).2=true):cL (cL s).1=((cL s).1,true):=by
 unfold cL at h
 split at h
 ·cases h
 ·rename_i h1
  split at h
  ·rename_i h2
   have e:cL s=(s.map upC,true):=by unfold cL; rw [if_neg h1,if_pos h2]
   rw [e]
   unfold cL
   rw [if_neg (by simpa using h1),if_pos (by simpa [MU] using h2)]
   simp [M4]
  ·cases h
end Go.Vm
/- Reading and writing the parts of a path: plain. No condition. -/
namespace Go.Vm
open Go Go.Proofs
set_option linter.unusedVariables false
def byteOf (a b:UInt8):UInt8:=UInt8.ofNat (16 * (dgt a).toNat+(dgt b).toNat)
def gu:B8→Option B8
 | []=>some []
 | c :: s=>if c≠37 then (gu s).map (c :: ·) else match s with
  | a :: b :: t=>if 0≤dgt a∧0≤dgt b then (gu t).map (byteOf a b :: ·) else none
  | _=>none
theorem mQ:gu []=some []:=by rw [gu]
theorem vS {c:UInt8} {s:B8} (h:c≠37):gu (c :: s)=(gu s).map (c :: ·):=by rw [gu.eq_def]; exact if_pos h
theorem Au (a b:UInt8) (t:B8):gu (37 :: a :: b :: t)=if 0≤dgt a∧0≤dgt b then (gu t).map (byteOf a b :: ·) else none:=by rw [gu.eq_def]; simp
theorem lR {s:B8} (h:s.length≤1):gu (37 :: s)=none:=by
 rw [gu.eq_def]
 match s,h with
 | [],_=>simp
 | [a],_=>simp
theorem qk : ∀ (m:Nat) (s t:B8),s.length≤m→gu s=some t→t.length≤s.length
 | m,[],t,_,h=>by rw [mQ] at h; cases h; simp
 | 0,c :: s,t,hm,h=>by simp at hm
 | m+1,c :: s,t,hm,h=>by
  by_cases hc:c=37
  ·subst hc
   match s,hm,h with
   | [],_,h=>rw [lR (by simp)] at h; cases h
   | [a],_,h=>rw [lR (by simp)] at h; cases h
   | a :: b :: u,hm,h =>
    rw [Au] at h
    split at h
    ·obtain ⟨v,hv,rfl⟩:=Option.map_eq_some_iff.1 h
     have:=qk m u v (by simp at hm; omega) hv
     simp; omega
    ·cases h
  ·rw [vS hc] at h
   obtain ⟨v,hv,rfl⟩:=Option.map_eq_some_iff.1 h
   have:=qk m s v (by simpa using hm) hv
   simp; omega
def rdQ (out:B8):Option B8→(Unit×(Unit×Unit×Unit)×B8×Unit) ⊕ (B8×Bool×Unit)
 | none => .inr ([],false,())
 | some t => .inl ((),((),(),()),out ++ t,())
theorem FB (out:B8) (x:UInt8) (o:Option B8):rdQ out (o.map (x :: ·))=rdQ (out ++ [x]) o:=by
 cases o with
 | none=>rfl
 | some t=>simp [rdQ]
def Jv (out:B8):Option B8→(B8×Unit) ⊕ (B8×Bool×Unit)
 | none => .inr ([],false,())
 | some t => .inl (out ++ t,())
theorem Da (out:B8) (x:UInt8) (o:Option B8):Jv out (o.map (x :: ·))=Jv (out ++ [x]) o:=by
 cases o with
 | none=>rfl
 | some t=>simp [Jv]
theorem IV : ∀ a b:Fin 16,IntKind.u8.wrap (ior .i64 (shl .i64 ((a.val:Nat):Int) 4) ((b.val:Nat):Int))=((16 * a.val+b.val:Nat):Int):=by decide +kernel
theorem byte_at {a b:UInt8} (ha:0≤dgt a) (hb:0≤dgt b):IntKind.u8.wrap (ior .i64 (shl .i64 (dgt a) 4) (dgt b))=((16 * (dgt a).toNat+(dgt b).toNat:Nat):Int):=by
 have h1:=Bo a
 have h2:=Bo b
 have:=IV ⟨(dgt a).toNat,by omega⟩ ⟨(dgt b).toNat,by omega⟩
 simp only [Int.toNat_of_nonneg ha,Int.toNat_of_nonneg hb] at this
 exact this
theorem JZ {a b:UInt8} (ha:0≤dgt a) (hb:0≤dgt b):IntKind.u8.wrap (IntKind.i64.wrap (IntKind.i64.wrap (dgt a * 16)+dgt b))=((16 * (dgt a).toNat+(dgt b).toNat:Nat):Int):=by
 have h1:=Bo a
 have h2:=Bo b
 rw [wrap64 (dgt a * 16) (by omega) (by omega),wrap64 _ (by omega) (by omega),JY _ (by omega)]
 omega
theorem K0 (k j:Nat) (h:k+j≤1000000):IntKind.i64.wrap ((k:Int)+(j:Int))=((k+j:Nat):Int):=by rw [wrap64] <;> omega
theorem qP (k:Nat) (h:k≤1000000):IntKind.i64.wrap ((k:Int)+1)=((k+1:Nat):Int):=ig k (by omega)
theorem rH (k:Nat) (h:k≤900000):IntKind.i64.wrap ((k:Int)+2)=((k+2:Nat):Int):=K0 k 2 (by omega)
theorem uA (s:B8) (hs:s.length≤1000) : ∀ (m k:Nat) (out:B8),s.length - k≤m→k≤s.length→out.length+(s.length - k)≤5000 →
  af dv (s,(),(k:Int),((),(),()),out,()) (rdQ out (gu (s.drop k)))
 | m,k,out,hm,hk,ho=>by
  by_cases hlt:k<s.length
  ·have hx:=sA s k (k:Int) rfl hlt
   have hd:=List.drop_eq_getElem_cons hlt
   cases m with
   | zero=>omega
   | succ m =>
   by_cases hc:s[k]=37
   ·by_cases h2:k+2<s.length
    ·have hx1:=sA s (k+1) ((k+1:Nat):Int) rfl (by omega)
     have hx2:=sA s (k+2) ((k+2:Nat):Int) rfl h2
     have hd1:=List.drop_eq_getElem_cons (show k+1<s.length by omega)
     have hd2:=List.drop_eq_getElem_cons h2
     rw [hd,hd1,hd2,hc,Au]
     by_cases ha:0≤dgt s[k+1]
     ·by_cases hb:0≤dgt s[k+2]
      ·rw [if_pos ⟨ha,hb⟩,FB]
       refine af.step (.of fun F => ?_) (uA s hs m (k+3) (out ++ [byteOf s[k+1] s[k+2]]) (by omega) (by omega) (by simp; omega))
       unfold dv
       refine (if_pos (by simp; omega)).trans ?_
       refine bd (a := .inl (s,(),((k+2:Nat):Int),((),(),()),out ++ [byteOf s[k+1] s[k+2]],())) ?_ ?_
       ·refine bd hx ?_
        rw [if_neg (by simp [hc])]
        refine bd (a:=(s,(),(k:Int),false,((),(),()),out,())) ?_ (bd (a:=(s,(),(k:Int),false,((),(),()),out,())) ?_ ?_)
        ·rw [if_pos (by rw [rH k (by omega)]; simp; omega)]
         simp only [qP k (by omega),hx1,Option.bind_some,mL]
         rw [decide_eq_false (by omega)]
        ·rw [if_pos rfl]
         simp only [rH k (by omega),hx2,Option.bind_some,mL]
         rw [decide_eq_false (by omega)]
        ·rw [if_neg (by simp)]
         simp only [qP k (by omega),rH k (by omega),hx1,hx2,Option.bind_some,mL,byte_at ha hb,lr F out _ (by omega),Int.toNat_natCast]
         rfl
       ·simp only [cm]
        rw [qP (k+2) (by omega)]
      ·rw [if_neg (by rintro ⟨_,h⟩; exact hb h)]
       refine af.fin (.of fun F => ?_)
       unfold dv
       refine (if_pos (by simp; omega)).trans ?_
       refine bd (a := .inr ([],false,())) ?_ rfl
       refine bd hx ?_
       rw [if_neg (by simp [hc])]
       refine bd (a:=(s,(),(k:Int),false,((),(),()),out,())) ?_ (bd (a:=(s,(),(k:Int),true,((),(),()),out,())) ?_ (if_pos rfl))
       ·rw [if_pos (by rw [rH k (by omega)]; simp; omega)]
        simp only [qP k (by omega),hx1,Option.bind_some,mL]
        rw [decide_eq_false (by omega)]
       ·rw [if_pos rfl]
        simp only [rH k (by omega),hx2,Option.bind_some,mL]
        rw [decide_eq_true (by omega)]
     ·rw [if_neg (by rintro ⟨h,_⟩; exact ha h)]
      refine af.fin (.of fun F => ?_)
      unfold dv
      refine (if_pos (by simp; omega)).trans ?_
      refine bd (a := .inr ([],false,())) ?_ rfl
      refine bd hx ?_
      rw [if_neg (by simp [hc])]
      refine bd (a:=(s,(),(k:Int),true,((),(),()),out,())) ?_ (bd (a:=(s,(),(k:Int),true,((),(),()),out,())) (if_neg (by simp)) (if_pos rfl))
      rw [if_pos (by rw [rH k (by omega)]; simp; omega)]
      simp only [qP k (by omega),hx1,Option.bind_some,mL]
      rw [decide_eq_true (by omega)]
    ·rw [hd,hc,lR (by simp; omega)]
     refine af.fin (.of fun F => ?_)
     unfold dv
     refine (if_pos (by simp; omega)).trans ?_
     refine bd (a := .inr ([],false,())) ?_ rfl
     refine bd hx ?_
     rw [if_neg (by simp [hc])]
     refine bd (a:=(s,(),(k:Int),true,((),(),()),out,())) (if_neg ?_) (bd (a:=(s,(),(k:Int),true,((),(),()),out,())) (if_neg (by simp)) (if_pos rfl))
     rw [rH k (by omega)]
     simp
     omega
   ·rw [hd,vS hc,FB]
    refine af.step (.of fun F => ?_) (uA s hs m (k+1) (out ++ [s[k]]) (by omega) (by omega) (by simp; omega))
    unfold dv
    refine (if_pos (by simp; omega)).trans ?_
    refine bd (a := .inl (s,(),(k:Int),((),(),()),out ++ [s[k]],())) ?_ ?_
    ·refine bd hx ?_
     have hc' : ¬ ((s[k].toNat:Int)=37):=fun h=>hc (UInt8.toNat_inj.1 (by show s[k].toNat=37; omega))
     rw [if_pos (by simpa using hc')]
     simp only [hx,Option.bind_some,lr F out _ (by omega),byte_back]
    ·simp only [cm]
     rw [qP k (by omega)]
  ·have:k=s.length:=by omega
   subst this
   rw [List.drop_eq_nil_of_le (Nat.le_refl _),mQ]
   refine af.fin (.of fun F => ?_)
   unfold dv
   refine (if_neg (by simp)).trans ?_
   simp [rdQ]
def iJ (s:B8):B8×Bool:=match gu s with
 | none=>([],false)
 | some t=>(t,decide (t = []) || mj t 60)
theorem w9 {s:B8} (h:gu s=none):iJ s=([],false):=by unfold iJ; rw [h]
theorem jN {s t:B8} (h:gu s=some t):iJ s=(t,decide (t = []) || mj t 60):=by unfold iJ; rw [h]
theorem DX (s:B8) (hs:s.length≤1000):ae (fun F=>kJ F s) (iJ s):=by
 unfold kJ
 have hl:=uA s hs _ 0 [] (Nat.le_refl _) (by omega) (by simp; omega)
 rw [List.drop_zero] at hl
 refine ae.bind hl.run ?_
 cases hr:gu s with
 | none =>
  rw [w9 hr]
  exact .ret _
 | some t =>
  rw [jN hr]
  simp only [rdQ,cm,List.nil_append]
  refine ae.bind (r:=(t,((),(),()))) (.of fun F=>rfl) ?_
  by_cases h0:t = []
  ·refine ae.bind (r:=(t,true,())) (.of fun F=>if_neg (by simp [h0])) ?_
   rw [decide_eq_true h0,Bool.true_or]
   exact .ret _
  ·refine ae.bind (r:=(t,mj t 60,())) (ae.pos (by simpa using h0) (ae.bind (B2 t 60) (.ret _))) ?_
   rw [decide_eq_false h0,Bool.false_or]
   exact .ret _
theorem rU (s:B8) (hs:s.length≤1000) : ∀ (m k:Nat) (out:B8),s.length - k≤m→k≤s.length→out.length+(s.length - k)≤5000 →
  af aM (s,out,(k:Int),()) (Jv out (gu (s.drop k)))
 | m,k,out,hm,hk,ho=>by
  by_cases hlt:k<s.length
  ·have hx:=sA s k (k:Int) rfl hlt
   have hd:=List.drop_eq_getElem_cons hlt
   cases m with
   | zero=>omega
   | succ m =>
   by_cases hc:s[k]=37
   ·by_cases h2:k+2<s.length
    ·have hx1:=sA s (k+1) ((k+1:Nat):Int) rfl (by omega)
     have hx2:=sA s (k+2) ((k+2:Nat):Int) rfl h2
     have hd1:=List.drop_eq_getElem_cons (show k+1<s.length by omega)
     have hd2:=List.drop_eq_getElem_cons h2
     rw [hd,hd1,hd2,hc,Au]
     by_cases ha:0≤dgt s[k+1]
     ·by_cases hb:0≤dgt s[k+2]
      ·rw [if_pos ⟨ha,hb⟩,Da]
       refine af.step (.of fun F => ?_) (rU s hs m (k+3) (out ++ [byteOf s[k+1] s[k+2]]) (by omega) (by omega) (by simp; omega))
       unfold aM
       refine (if_pos (by simp; omega)).trans ?_
       refine bd (a := .inl (s,out ++ [byteOf s[k+1] s[k+2]],((k+2:Nat):Int),())) ?_ ?_
       ·refine bd hx ?_
        rw [if_neg (by simp [hc])]
        refine bd (a:=(s,out,(k:Int),false,())) ?_ (bd (a:=(s,out,(k:Int),false,())) ?_ ?_)
        ·rw [if_pos (by rw [rH k (by omega)]; simp; omega)]
         simp only [qP k (by omega),hx1,Option.bind_some,kX]
         rw [decide_eq_false (by omega)]
        ·rw [if_pos rfl]
         simp only [rH k (by omega),hx2,Option.bind_some,kX]
         rw [decide_eq_false (by omega)]
        ·rw [if_neg (by simp)]
         simp only [qP k (by omega),rH k (by omega),hx1,hx2,Option.bind_some,kX,JZ ha hb,Int.toNat_natCast]
         rw [if_pos (by simp; omega),Option.bind_some]
         simp only [rH k (by omega)]
         rfl
       ·simp only [cm]
        rw [qP (k+2) (by omega)]
      ·rw [if_neg (by rintro ⟨_,h⟩; exact hb h)]
       refine af.fin (.of fun F => ?_)
       unfold aM
       refine (if_pos (by simp; omega)).trans ?_
       refine bd (a := .inr ([],false,())) ?_ rfl
       refine bd hx ?_
       rw [if_neg (by simp [hc])]
       refine bd (a:=(s,out,(k:Int),false,())) ?_ (bd (a:=(s,out,(k:Int),true,())) ?_ (if_pos rfl))
       ·rw [if_pos (by rw [rH k (by omega)]; simp; omega)]
        simp only [qP k (by omega),hx1,Option.bind_some,kX]
        rw [decide_eq_false (by omega)]
       ·rw [if_pos rfl]
        simp only [rH k (by omega),hx2,Option.bind_some,kX]
        rw [decide_eq_true (by omega)]
     ·rw [if_neg (by rintro ⟨h,_⟩; exact ha h)]
      refine af.fin (.of fun F => ?_)
      unfold aM
      refine (if_pos (by simp; omega)).trans ?_
      refine bd (a := .inr ([],false,())) ?_ rfl
      refine bd hx ?_
      rw [if_neg (by simp [hc])]
      refine bd (a:=(s,out,(k:Int),true,())) ?_ (bd (a:=(s,out,(k:Int),true,())) (if_neg (by simp)) (if_pos rfl))
      rw [if_pos (by rw [rH k (by omega)]; simp; omega)]
      simp only [qP k (by omega),hx1,Option.bind_some,kX]
      rw [decide_eq_true (by omega)]
    ·rw [hd,hc,lR (by simp; omega)]
     refine af.fin (.of fun F => ?_)
     unfold aM
     refine (if_pos (by simp; omega)).trans ?_
     refine bd (a := .inr ([],false,())) ?_ rfl
     refine bd hx ?_
     rw [if_neg (by simp [hc])]
     refine bd (a:=(s,out,(k:Int),true,())) (if_neg ?_) (bd (a:=(s,out,(k:Int),true,())) (if_neg (by simp)) (if_pos rfl))
     rw [rH k (by omega)]
     simp
     omega
   ·rw [hd,vS hc,Da]
    refine af.step (.of fun F => ?_) (rU s hs m (k+1) (out ++ [s[k]]) (by omega) (by omega) (by simp; omega))
    unfold aM
    refine (if_pos (by simp; omega)).trans ?_
    refine bd (a := .inl (s,out ++ [s[k]],(k:Int),())) ?_ ?_
    ·refine bd hx ?_
     have hc' : ¬ ((s[k].toNat:Int)=37):=fun h=>hc (UInt8.toNat_inj.1 (by show s[k].toNat=37; omega))
     rw [if_pos (by simpa using hc')]
     have hsub:sub s (k:Int) ((k+1:Nat):Int)=some [s[k]]:=by
      rw [M6 s k (k+1) (by omega) (by omega),hd,show k+1 - k=1 by omega]
      rfl
     refine bd (a := [s[k]]) (by rw [qP k (by omega)]; exact hsub) ?_
     rw [if_pos (by simp; omega)]
    ·simp only [cm]
     rw [qP k (by omega)]
  ·have:k=s.length:=by omega
   subst this
   rw [List.drop_eq_nil_of_le (Nat.le_refl _),mQ]
   refine af.fin (.of fun F => ?_)
   unfold aM
   refine (if_neg (by simp)).trans ?_
   simp [Jv]
theorem B0 (s:B8) (hs:s.length≤1000):ae (fun F=>eX F s) (iJ s):=by
 unfold eX
 have hl:=rU s hs _ 0 [] (Nat.le_refl _) (by omega) (by simp; omega)
 rw [List.drop_zero] at hl
 refine ae.bind hl.run ?_
 cases hr:gu s with
 | none =>
  rw [w9 hr]
  exact .ret _
 | some t =>
  have ht:=qk _ s t (Nat.le_refl _) hr
  rw [jN hr]
  by_cases h0:t = []
  ·refine ae.bind (r:=(t,true,())) (.of fun F=>if_neg (by simp [h0])) ?_
   rw [decide_eq_true h0,Bool.true_or]
   exact .ret _
  ·refine ae.bind (r:=(t,mj t 60,())) (ae.pos (by simpa using h0) (ae.bind (wR t (by omega) 60) (.ret _))) ?_
   rw [decide_eq_false h0,Bool.false_or]
   exact .ret _
/-! ### writing -/
def wr1 (c:UInt8):B8:=if kv c=true then [c] else [37,xV (c.toNat / 16),xV (c.toNat % 16)]
def ew (s:B8):B8:=s.flatMap wr1
theorem BF (c:UInt8):(wr1 c).length≤3:=by unfold wr1; split <;> simp
theorem wg (s:B8):(ew s).length≤3 * s.length:=by
 unfold ew
 induction s with
 | nil=>simp
 | cons c s ih=>rw [List.flatMap_cons,List.length_append,List.length_cons]; have:=BF c; omega
theorem KQ : ∀ c:Fin 256,shr .u8 ((c.val:Nat):Int) 4=((c.val / 16:Nat):Int)∧mg .u8 ((c.val:Nat):Int) 15=((c.val % 16:Nat):Int):=by decide +kernel
theorem uM (s:B8) (hs:s.length≤1000) : ∀ (m k:Nat) (out:B8),k+m=s.length→out.length+3 * m≤50000 →
  af gN (s,(),(s.length:Int),(k:Int),((),(),()),out,()) ((),((),(),()),out ++ ew (s.drop k),())
 | 0,k,out,h,ho=>by
  refine af.fin (.of fun F => ?_)
  unfold gN
  refine (if_neg (by simp; omega)).trans ?_
  rw [List.drop_eq_nil_of_le (by omega)]
  simp [ew]
 | m+1,k,out,h,ho=>by
  have hk:k<s.length:=by omega
  have hx:=sA s k (k:Int) rfl hk
  have hw:=BF s[k]
  rw [List.drop_eq_getElem_cons hk]
  have e:out ++ ew (s[k] :: s.drop (k+1))=(out ++ wr1 s[k]) ++ ew (s.drop (k+1)):=by unfold ew; rw [List.flatMap_cons,List.append_assoc]
  rw [e]
  refine af.step (.of fun F => ?_) (uM s hs m (k+1) (out ++ wr1 s[k]) (by omega) (by simp; omega))
  unfold gN
  refine (if_pos (by simp; omega)).trans ?_
  refine bd (a:=(s,(),(s.length:Int),(k:Int),((),(),()),out ++ wr1 s[k],())) ?_ ?_
  ·refine bd hx (bd (Jr F s[k]) ?_)
   cases hp:kv s[k]
   ·rw [if_neg (by simp)]
    have ht:=KQ ⟨s[k].toNat,s[k].toNat_lt⟩
    have hn:s[k].toNat<256:=s[k].toNat_lt
    simp only at ht
    simp only [lr F out _ (by omega),Option.bind_some,hx,ht.1,ht.2,CJ _ (show s[k].toNat / 16<16 by omega),CJ _ (show s[k].toNat % 16<16 by omega)]
    rw [lr F _ _ (by simp; omega)]
    simp only [Option.bind_some]
    rw [lr F _ _ (by simp; omega)]
    simp only [Option.bind_some,byte_back]
    unfold wr1
    rw [hp,if_neg (by simp)]
    simp
   ·rw [if_pos rfl]
    simp only [hx,Option.bind_some,lr F out _ (by omega),byte_back]
    unfold wr1
    rw [hp,if_pos rfl]
  ·simp only
   rw [qP k (by omega)]
theorem Ak (s:B8) (hs:s.length≤1000):ae (fun F=>jR F s) (ew s):=by
 unfold jR
 have hl:=uM s hs s.length 0 [] (by omega) (by simp; omega)
 rw [List.drop_zero,List.nil_append] at hl
 exact ae.bind hl.run (.of fun F=>rfl)
theorem uZ (s:B8) (hs:s.length≤1000) : ∀ (m k:Nat) (out:B8),k+m=s.length→out.length+3 * m≤50000 →
  af dB (s,out,(k:Int),()) (out ++ ew (s.drop k),())
 | 0,k,out,h,ho=>by
  refine af.fin (.of fun F => ?_)
  unfold dB
  refine (if_neg (by simp; omega)).trans ?_
  rw [List.drop_eq_nil_of_le (by omega)]
  simp [ew]
 | m+1,k,out,h,ho=>by
  have hk:k<s.length:=by omega
  have hx:=sA s k (k:Int) rfl hk
  have hw:=BF s[k]
  have hd:=List.drop_eq_getElem_cons hk
  have hsub:sub s (k:Int) ((k+1:Nat):Int)=some [s[k]]:=by
   rw [M6 s k (k+1) (by omega) (by omega),hd,show k+1 - k=1 by omega]
   rfl
  rw [hd]
  have e:out ++ ew (s[k] :: s.drop (k+1))=(out ++ wr1 s[k]) ++ ew (s.drop (k+1)):=by unfold ew; rw [List.flatMap_cons,List.append_assoc]
  rw [e]
  refine af.step (.of fun F => ?_) (uZ s hs m (k+1) (out ++ wr1 s[k]) (by omega) (by simp; omega))
  unfold dB
  refine (if_pos (by simp; omega)).trans ?_
  refine bd (a:=(s,out ++ wr1 s[k],(k:Int),())) ?_ ?_
  ·refine bd hx ?_
   have hn:s[k].toNat<256:=s[k].toNat_lt
   have hI:kv s[k]=vY s[k].toNat:=rfl
   have hW:wr1 s[k]=if kv s[k]=true then [s[k]] else [37,xV (s[k].toNat / 16),xV (s[k].toNat % 16)]:=rfl
   rw [hW,hI]
   generalize hg:s[k].toNat=n at hn
   obtain ⟨b1,h1⟩ : ∃ b,b=decide (65≤n∧n≤90):=⟨_,rfl⟩
   obtain ⟨b2,h2⟩ : ∃ b,b=(b1 || decide (97≤n∧n≤122)):=⟨_,rfl⟩
   obtain ⟨b3,h3⟩ : ∃ b,b=(b2 || decide (48≤n∧n≤57)):=⟨_,rfl⟩
   obtain ⟨b4,h4⟩ : ∃ b,b=(b3 || decide ((n:Int)=45)):=⟨_,rfl⟩
   obtain ⟨b5,h5⟩ : ∃ b,b=(b4 || decide ((n:Int)=46)):=⟨_,rfl⟩
   obtain ⟨b6,h6⟩ : ∃ b,b=(b5 || decide ((n:Int)=95)):=⟨_,rfl⟩
   obtain ⟨b7,h7⟩ : ∃ b,b=(b6 || decide ((n:Int)=126)):=⟨_,rfl⟩
   have hp:vY n=b7:=by
    unfold vY
    rw [h7,h6,h5,h4,h3,h2,h1,Bool.eq_iff_iff]
    simp only [decide_eq_true_eq,Bool.or_eq_true]
    omega
   have dn : ∀ a b:Nat,(if decide (((a:Nat):Int)≤(n:Int))=true then some (s,out,(k:Int),(n:Int),decide ((n:Int)≤((b:Nat):Int)),()) else some (s,out,(k:Int),(n:Int),false,()))=some (s,out,(k:Int),(n:Int),decide (a≤n∧n≤b),()):=by
    intro a b
    by_cases ha:a≤n
    ·rw [if_pos (decide_eq_true (by omega))]
     simp only [Option.some.injEq,Prod.mk.injEq,true_and,and_true,decide_eq_decide]
     omega
    ·rw [if_neg (by simp; omega),decide_eq_false (by omega)]
   refine bd (a:=(s,out,(k:Int),(n:Int),b1,())) (by rw [h1]; exact dn 65 90) ?_
   refine bd (a:=(s,out,(k:Int),(n:Int),b2,())) (by cases b1 <;> rw [h2] <;> first | exact (if_pos rfl).trans (dn 97 122) | exact if_neg (by simp)) ?_
   refine bd (a:=(s,out,(k:Int),(n:Int),b3,())) (by cases b2 <;> rw [h3] <;> first | exact (if_pos rfl).trans (dn 48 57) | exact if_neg (by simp)) ?_
   refine bd (a:=(s,out,(k:Int),(n:Int),b4,())) (by cases b3 <;> rw [h4] <;> first | exact if_pos rfl | exact if_neg (by simp)) ?_
   refine bd (a:=(s,out,(k:Int),(n:Int),b5,())) (by cases b4 <;> rw [h5] <;> first | exact if_pos rfl | exact if_neg (by simp)) ?_
   refine bd (a:=(s,out,(k:Int),(n:Int),b6,())) (by cases b5 <;> rw [h6] <;> first | exact if_pos rfl | exact if_neg (by simp)) ?_
   refine bd (a:=(s,out,(k:Int),(n:Int),b7,())) (by cases b6 <;> rw [h7] <;> first | exact if_pos rfl | exact if_neg (by simp)) ?_
   rw [hp]
   cases b7
   ·simp only [Bool.false_eq_true,if_false]
    rw [if_pos (by simp; omega)]
    have w1:IntKind.i64.wrap (n:Int)=(n:Int):=wrap64 _ (by omega) (by omega)
    have w2:IntKind.i64.wrap ((n:Int).tdiv 16)=((n / 16:Nat):Int):=by
     rw [Int.tdiv_eq_ediv_of_nonneg (by omega),wrap64 _ (by omega) (by omega)]
     omega
    have w3:(n:Int).tmod 16=((n % 16:Nat):Int):=by
     rw [Int.tmod_eq_emod_of_nonneg (by omega)]
     omega
    simp only [w1,w2,w3,JQ F _ (show n / 16<16 by omega),JQ F _ (show n % 16<16 by omega),Option.bind_some]
    rw [if_pos (by simp; omega),if_pos (by simp; omega)]
    simp
   ·rw [if_pos rfl,if_pos rfl]
    refine bd (a := [s[k]]) (by rw [qP k (by omega)]; exact hsub) ?_
    rw [if_pos (by simp; omega)]
  ·simp only
   rw [qP k (by omega)]
theorem A1 (s:B8) (hs:s.length≤1000):ae (fun F=>eC F s) (ew s):=by
 unfold eC
 have hl:=uZ s hs s.length 0 [] (by omega) (by simp; omega)
 rw [List.drop_zero,List.nil_append] at hl
 exact ae.bind hl.run (.of fun F=>rfl)
end Go.Vm
