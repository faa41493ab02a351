/- Reading and writing the parts of a path: plain. No condition. -/
import Derived.Test.YtihpjgcbmipdbaaGreatDoorPk1
namespace Go.Vm
open Go Go.Proofs
set_option linter.unusedVariables false
def byteOf (a b:UInt8):UInt8:=UInt8.ofNat (16 * (dgt a).toNat+(dgt b).toNat)
def gp:B8→Option B8
 | []=>some []
 | c :: s=>if c≠37 then (gp s).map (c :: ·) else match s with
  | a :: b :: t=>if 0≤dgt a∧0≤dgt b then (gp t).map (byteOf a b :: ·) else none
  | _=>none
theorem oS:gp []=some []:=by rw [gp]
theorem zh {c:UInt8} {s:B8} (h:c≠37):gp (c :: s)=(gp s).map (c :: ·):=by rw [gp.eq_def]; exact if_pos h
theorem yJ (a b:UInt8) (t:B8):gp (37 :: a :: b :: t)=if 0≤dgt a∧0≤dgt b then (gp t).map (byteOf a b :: ·) else none:=by rw [gp.eq_def]; simp
theorem lb {s:B8} (h:s.length≤1):gp (37 :: s)=none:=by
 rw [gp.eq_def]
 match s,h with
 | [],_=>simp
 | [a],_=>simp
theorem oI : ∀ (m:Nat) (s t:B8),s.length≤m→gp s=some t→t.length≤s.length
 | m,[],t,_,h=>by rw [oS] at h; cases h; simp
 | 0,c :: s,t,hm,h=>by simp at hm
 | m+1,c :: s,t,hm,h=>by
  by_cases hc:c=37
  ·subst hc
   match s,hm,h with
   | [],_,h=>rw [lb (by simp)] at h; cases h
   | [a],_,h=>rw [lb (by simp)] at h; cases h
   | a :: b :: u,hm,h =>
    rw [yJ] at h
    split at h
    ·obtain ⟨v,hv,rfl⟩:=Option.map_eq_some_iff.1 h
     have:=oI m u v (by simp at hm; omega) hv
     simp; omega
    ·cases h
  ·rw [zh hc] at h
   obtain ⟨v,hv,rfl⟩:=Option.map_eq_some_iff.1 h
   have:=oI m s v (by simpa using hm) hv
   simp; omega
def rdQ (out:B8):Option B8→(Unit×(Unit×Unit×Unit)×B8×Unit) ⊕ (B8×Bool×Unit)
 | none => .inr ([],false,())
 | some t => .inl ((),((),(),()),out ++ t,())
theorem D0 (out:B8) (x:UInt8) (o:Option B8):rdQ out (o.map (x :: ·))=rdQ (out ++ [x]) o:=by
 cases o with
 | none=>rfl
 | some t=>simp [rdQ]
def Gq (out:B8):Option B8→(B8×Unit) ⊕ (B8×Bool×Unit)
 | none => .inr ([],false,())
 | some t => .inl (out ++ t,())
theorem BD (out:B8) (x:UInt8) (o:Option B8):Gq out (o.map (x :: ·))=Gq (out ++ [x]) o:=by
 cases o with
 | none=>rfl
 | some t=>simp [Gq]
theorem Gp : ∀ a b:Fin 16,IntKind.u8.wrap (ior .i64 (shl .i64 ((a.val:Nat):Int) 4) ((b.val:Nat):Int))=((16 * a.val+b.val:Nat):Int):=by decide +kernel
theorem byte_at {a b:UInt8} (ha:0≤dgt a) (hb:0≤dgt b):IntKind.u8.wrap (ior .i64 (shl .i64 (dgt a) 4) (dgt b))=((16 * (dgt a).toNat+(dgt b).toNat:Nat):Int):=by
 have h1:=yf a
 have h2:=yf b
 have:=Gp ⟨(dgt a).toNat,by omega⟩ ⟨(dgt b).toNat,by omega⟩
 simp only [Int.toNat_of_nonneg ha,Int.toNat_of_nonneg hb] at this
 exact this
theorem Gi {a b:UInt8} (ha:0≤dgt a) (hb:0≤dgt b):IntKind.u8.wrap (IntKind.i64.wrap (IntKind.i64.wrap (dgt a * 16)+dgt b))=((16 * (dgt a).toNat+(dgt b).toNat:Nat):Int):=by
 have h1:=yf a
 have h2:=yf b
 rw [wrap64 (dgt a * 16) (by omega) (by omega),wrap64 _ (by omega) (by omega),Ix _ (by omega)]
 omega
theorem Jd (k j:Nat) (h:k+j≤1000000):IntKind.i64.wrap ((k:Int)+(j:Int))=((k+j:Nat):Int):=by rw [wrap64] <;> omega
theorem pk (k:Nat) (h:k≤1000000):IntKind.i64.wrap ((k:Int)+1)=((k+1:Nat):Int):=dO k (by omega)
theorem pZ (k:Nat) (h:k≤900000):IntKind.i64.wrap ((k:Int)+2)=((k+2:Nat):Int):=Jd k 2 (by omega)
theorem sb (s:B8) (hs:s.length≤1000) : ∀ (m k:Nat) (out:B8),s.length - k≤m→k≤s.length→out.length+(s.length - k)≤5000 →
  ag cK (s,(),(k:Int),((),(),()),out,()) (rdQ out (gp (s.drop k)))
 | m,k,out,hm,hk,ho=>by
  by_cases hlt:k<s.length
  ·have hx:=qf s k (k:Int) rfl hlt
   have hd:=List.drop_eq_getElem_cons hlt
   cases m with
   | zero=>omega
   | succ m =>
   by_cases hc:s[k]=37
   ·by_cases h2:k+2<s.length
    ·have hx1:=qf s (k+1) ((k+1:Nat):Int) rfl (by omega)
     have hx2:=qf s (k+2) ((k+2:Nat):Int) rfl h2
     have hd1:=List.drop_eq_getElem_cons (show k+1<s.length by omega)
     have hd2:=List.drop_eq_getElem_cons h2
     rw [hd,hd1,hd2,hc,yJ]
     by_cases ha:0≤dgt s[k+1]
     ·by_cases hb:0≤dgt s[k+2]
      ·rw [if_pos ⟨ha,hb⟩,D0]
       refine ag.step (.of fun F => ?_) (sb s hs m (k+3) (out ++ [byteOf s[k+1] s[k+2]]) (by omega) (by omega) (by simp; omega))
       unfold cK
       refine (if_pos (by simp; omega)).trans ?_
       refine ba (a := .inl (s,(),((k+2:Nat):Int),((),(),()),out ++ [byteOf s[k+1] s[k+2]],())) ?_ ?_
       ·refine ba hx ?_
        rw [if_neg (by simp [hc])]
        refine ba (a:=(s,(),(k:Int),false,((),(),()),out,())) ?_ (ba (a:=(s,(),(k:Int),false,((),(),()),out,())) ?_ ?_)
        ·rw [if_pos (by rw [pZ k (by omega)]; simp; omega)]
         simp only [pk k (by omega),hx1,Option.bind_some,lS]
         rw [decide_eq_false (by omega)]
        ·rw [if_pos rfl]
         simp only [pZ k (by omega),hx2,Option.bind_some,lS]
         rw [decide_eq_false (by omega)]
        ·rw [if_neg (by simp)]
         simp only [pk k (by omega),pZ k (by omega),hx1,hx2,Option.bind_some,lS,byte_at ha hb,kN F out _ (by omega),Int.toNat_natCast]
         rfl
       ·simp only [dh]
        rw [pk (k+2) (by omega)]
      ·rw [if_neg (by rintro ⟨_,h⟩; exact hb h)]
       refine ag.fin (.of fun F => ?_)
       unfold cK
       refine (if_pos (by simp; omega)).trans ?_
       refine ba (a := .inr ([],false,())) ?_ rfl
       refine ba hx ?_
       rw [if_neg (by simp [hc])]
       refine ba (a:=(s,(),(k:Int),false,((),(),()),out,())) ?_ (ba (a:=(s,(),(k:Int),true,((),(),()),out,())) ?_ (if_pos rfl))
       ·rw [if_pos (by rw [pZ k (by omega)]; simp; omega)]
        simp only [pk k (by omega),hx1,Option.bind_some,lS]
        rw [decide_eq_false (by omega)]
       ·rw [if_pos rfl]
        simp only [pZ k (by omega),hx2,Option.bind_some,lS]
        rw [decide_eq_true (by omega)]
     ·rw [if_neg (by rintro ⟨h,_⟩; exact ha h)]
      refine ag.fin (.of fun F => ?_)
      unfold cK
      refine (if_pos (by simp; omega)).trans ?_
      refine ba (a := .inr ([],false,())) ?_ rfl
      refine ba hx ?_
      rw [if_neg (by simp [hc])]
      refine ba (a:=(s,(),(k:Int),true,((),(),()),out,())) ?_ (ba (a:=(s,(),(k:Int),true,((),(),()),out,())) (if_neg (by simp)) (if_pos rfl))
      rw [if_pos (by rw [pZ k (by omega)]; simp; omega)]
      simp only [pk k (by omega),hx1,Option.bind_some,lS]
      rw [decide_eq_true (by omega)]
    ·rw [hd,hc,lb (by simp; omega)]
     refine ag.fin (.of fun F => ?_)
     unfold cK
     refine (if_pos (by simp; omega)).trans ?_
     refine ba (a := .inr ([],false,())) ?_ rfl
     refine ba hx ?_
     rw [if_neg (by simp [hc])]
     refine ba (a:=(s,(),(k:Int),true,((),(),()),out,())) (if_neg ?_) (ba (a:=(s,(),(k:Int),true,((),(),()),out,())) (if_neg (by simp)) (if_pos rfl))
     rw [pZ k (by omega)]
     simp
     omega
   ·rw [hd,zh hc,D0]
    refine ag.step (.of fun F => ?_) (sb s hs m (k+1) (out ++ [s[k]]) (by omega) (by omega) (by simp; omega))
    unfold cK
    refine (if_pos (by simp; omega)).trans ?_
    refine ba (a := .inl (s,(),(k:Int),((),(),()),out ++ [s[k]],())) ?_ ?_
    ·refine ba hx ?_
     have hc' : ¬ ((s[k].toNat:Int)=37):=fun h=>hc (UInt8.toNat_inj.1 (by show s[k].toNat=37; omega))
     rw [if_pos (by simpa using hc')]
     simp only [hx,Option.bind_some,kN F out _ (by omega),byte_back]
    ·simp only [dh]
     rw [pk k (by omega)]
  ·have:k=s.length:=by omega
   subst this
   rw [List.drop_eq_nil_of_le (Nat.le_refl _),oS]
   refine ag.fin (.of fun F => ?_)
   unfold cK
   refine (if_neg (by simp)).trans ?_
   simp [rdQ]
def jE (s:B8):B8×Bool:=match gp s with
 | none=>([],false)
 | some t=>(t,decide (t = []) || nK t 60)
theorem ud {s:B8} (h:gp s=none):jE s=([],false):=by unfold jE; rw [h]
theorem pX {s t:B8} (h:gp s=some t):jE s=(t,decide (t = []) || nK t 60):=by unfold jE; rw [h]
theorem Cz (s:B8) (hs:s.length≤1000):ae (fun F=>kg F s) (jE s):=by
 unfold kg
 have hl:=sb s hs _ 0 [] (Nat.le_refl _) (by omega) (by simp; omega)
 rw [List.drop_zero] at hl
 refine ae.bind hl.run ?_
 cases hr:gp s with
 | none =>
  rw [ud hr]
  exact .ret _
 | some t =>
  rw [pX hr]
  simp only [rdQ,dh,List.nil_append]
  refine ae.bind (r:=(t,((),(),()))) (.of fun F=>rfl) ?_
  by_cases h0:t = []
  ·refine ae.bind (r:=(t,true,())) (.of fun F=>if_neg (by simp [h0])) ?_
   rw [decide_eq_true h0,Bool.true_or]
   exact .ret _
  ·refine ae.bind (r:=(t,nK t 60,())) (ae.pos (by simpa using h0) (ae.bind (Bu t 60) (.ret _))) ?_
   rw [decide_eq_false h0,Bool.false_or]
   exact .ret _
theorem pO (s:B8) (hs:s.length≤1000) : ∀ (m k:Nat) (out:B8),s.length - k≤m→k≤s.length→out.length+(s.length - k)≤5000 →
  ag aQ (s,out,(k:Int),()) (Gq out (gp (s.drop k)))
 | m,k,out,hm,hk,ho=>by
  by_cases hlt:k<s.length
  ·have hx:=qf s k (k:Int) rfl hlt
   have hd:=List.drop_eq_getElem_cons hlt
   cases m with
   | zero=>omega
   | succ m =>
   by_cases hc:s[k]=37
   ·by_cases h2:k+2<s.length
    ·have hx1:=qf s (k+1) ((k+1:Nat):Int) rfl (by omega)
     have hx2:=qf s (k+2) ((k+2:Nat):Int) rfl h2
     have hd1:=List.drop_eq_getElem_cons (show k+1<s.length by omega)
     have hd2:=List.drop_eq_getElem_cons h2
     rw [hd,hd1,hd2,hc,yJ]
     by_cases ha:0≤dgt s[k+1]
     ·by_cases hb:0≤dgt s[k+2]
      ·rw [if_pos ⟨ha,hb⟩,BD]
       refine ag.step (.of fun F => ?_) (pO s hs m (k+3) (out ++ [byteOf s[k+1] s[k+2]]) (by omega) (by omega) (by simp; omega))
       unfold aQ
       refine (if_pos (by simp; omega)).trans ?_
       refine ba (a := .inl (s,out ++ [byteOf s[k+1] s[k+2]],((k+2:Nat):Int),())) ?_ ?_
       ·refine ba hx ?_
        rw [if_neg (by simp [hc])]
        refine ba (a:=(s,out,(k:Int),false,())) ?_ (ba (a:=(s,out,(k:Int),false,())) ?_ ?_)
        ·rw [if_pos (by rw [pZ k (by omega)]; simp; omega)]
         simp only [pk k (by omega),hx1,Option.bind_some,kp]
         rw [decide_eq_false (by omega)]
        ·rw [if_pos rfl]
         simp only [pZ k (by omega),hx2,Option.bind_some,kp]
         rw [decide_eq_false (by omega)]
        ·rw [if_neg (by simp)]
         simp only [pk k (by omega),pZ k (by omega),hx1,hx2,Option.bind_some,kp,Gi ha hb,Int.toNat_natCast]
         rw [if_pos (by simp; omega),Option.bind_some]
         simp only [pZ k (by omega)]
         rfl
       ·simp only [dh]
        rw [pk (k+2) (by omega)]
      ·rw [if_neg (by rintro ⟨_,h⟩; exact hb h)]
       refine ag.fin (.of fun F => ?_)
       unfold aQ
       refine (if_pos (by simp; omega)).trans ?_
       refine ba (a := .inr ([],false,())) ?_ rfl
       refine ba hx ?_
       rw [if_neg (by simp [hc])]
       refine ba (a:=(s,out,(k:Int),false,())) ?_ (ba (a:=(s,out,(k:Int),true,())) ?_ (if_pos rfl))
       ·rw [if_pos (by rw [pZ k (by omega)]; simp; omega)]
        simp only [pk k (by omega),hx1,Option.bind_some,kp]
        rw [decide_eq_false (by omega)]
       ·rw [if_pos rfl]
        simp only [pZ k (by omega),hx2,Option.bind_some,kp]
        rw [decide_eq_true (by omega)]
     ·rw [if_neg (by rintro ⟨h,_⟩; exact ha h)]
      refine ag.fin (.of fun F => ?_)
      unfold aQ
      refine (if_pos (by simp; omega)).trans ?_
      refine ba (a := .inr ([],false,())) ?_ rfl
      refine ba hx ?_
      rw [if_neg (by simp [hc])]
      refine ba (a:=(s,out,(k:Int),true,())) ?_ (ba (a:=(s,out,(k:Int),true,())) (if_neg (by simp)) (if_pos rfl))
      rw [if_pos (by rw [pZ k (by omega)]; simp; omega)]
      simp only [pk k (by omega),hx1,Option.bind_some,kp]
      rw [decide_eq_true (by omega)]
    ·rw [hd,hc,lb (by simp; omega)]
     refine ag.fin (.of fun F => ?_)
     unfold aQ
     refine (if_pos (by simp; omega)).trans ?_
     refine ba (a := .inr ([],false,())) ?_ rfl
     refine ba hx ?_
     rw [if_neg (by simp [hc])]
     refine ba (a:=(s,out,(k:Int),true,())) (if_neg ?_) (ba (a:=(s,out,(k:Int),true,())) (if_neg (by simp)) (if_pos rfl))
     rw [pZ k (by omega)]
     simp
     omega
   ·rw [hd,zh hc,BD]
    refine ag.step (.of fun F => ?_) (pO s hs m (k+1) (out ++ [s[k]]) (by omega) (by omega) (by simp; omega))
    unfold aQ
    refine (if_pos (by simp; omega)).trans ?_
    refine ba (a := .inl (s,out ++ [s[k]],(k:Int),())) ?_ ?_
    ·refine ba hx ?_
     have hc' : ¬ ((s[k].toNat:Int)=37):=fun h=>hc (UInt8.toNat_inj.1 (by show s[k].toNat=37; omega))
     rw [if_pos (by simpa using hc')]
     have hsub:sub s (k:Int) ((k+1:Nat):Int)=some [s[k]]:=by
      rw [Lu s k (k+1) (by omega) (by omega),hd,show k+1 - k=1 by omega]
      rfl
     refine ba (a := [s[k]]) (by rw [pk k (by omega)]; exact hsub) ?_
     rw [if_pos (by simp; omega)]
    ·simp only [dh]
     rw [pk k (by omega)]
  ·have:k=s.length:=by omega
   subst this
   rw [List.drop_eq_nil_of_le (Nat.le_refl _),oS]
   refine ag.fin (.of fun F => ?_)
   unfold aQ
   refine (if_neg (by simp)).trans ?_
   simp [Gq]
theorem Ad (s:B8) (hs:s.length≤1000):ae (fun F=>dV F s) (jE s):=by
 unfold dV
 have hl:=pO s hs _ 0 [] (Nat.le_refl _) (by omega) (by simp; omega)
 rw [List.drop_zero] at hl
 refine ae.bind hl.run ?_
 cases hr:gp s with
 | none =>
  rw [ud hr]
  exact .ret _
 | some t =>
  have ht:=oI _ s t (Nat.le_refl _) hr
  rw [pX hr]
  by_cases h0:t = []
  ·refine ae.bind (r:=(t,true,())) (.of fun F=>if_neg (by simp [h0])) ?_
   rw [decide_eq_true h0,Bool.true_or]
   exact .ret _
  ·refine ae.bind (r:=(t,nK t 60,())) (ae.pos (by simpa using h0) (ae.bind (tH t (by omega) 60) (.ret _))) ?_
   rw [decide_eq_false h0,Bool.false_or]
   exact .ret _
/-! ### writing -/
def wr1 (c:UInt8):B8:=if uo c=true then [c] else [37,Bv (c.toNat / 16),Bv (c.toNat % 16)]
def eR (s:B8):B8:=s.flatMap wr1
theorem yv (c:UInt8):(wr1 c).length≤3:=by unfold wr1; split <;> simp
theorem uM (s:B8):(eR s).length≤3 * s.length:=by
 unfold eR
 induction s with
 | nil=>simp
 | cons c s ih=>rw [List.flatMap_cons,List.length_append,List.length_cons]; have:=yv c; omega
theorem JJ : ∀ c:Fin 256,shr .u8 ((c.val:Nat):Int) 4=((c.val / 16:Nat):Int)∧lB .u8 ((c.val:Nat):Int) 15=((c.val % 16:Nat):Int):=by decide +kernel
theorem sy (s:B8) (hs:s.length≤1000) : ∀ (m k:Nat) (out:B8),k+m=s.length→out.length+3 * m≤50000 →
  ag fN (s,(),(s.length:Int),(k:Int),((),(),()),out,()) ((),((),(),()),out ++ eR (s.drop k),())
 | 0,k,out,h,ho=>by
  refine ag.fin (.of fun F => ?_)
  unfold fN
  refine (if_neg (by simp; omega)).trans ?_
  rw [List.drop_eq_nil_of_le (by omega)]
  simp [eR]
 | m+1,k,out,h,ho=>by
  have hk:k<s.length:=by omega
  have hx:=qf s k (k:Int) rfl hk
  have hw:=yv s[k]
  rw [List.drop_eq_getElem_cons hk]
  have e:out ++ eR (s[k] :: s.drop (k+1))=(out ++ wr1 s[k]) ++ eR (s.drop (k+1)):=by unfold eR; rw [List.flatMap_cons,List.append_assoc]
  rw [e]
  refine ag.step (.of fun F => ?_) (sy s hs m (k+1) (out ++ wr1 s[k]) (by omega) (by simp; omega))
  unfold fN
  refine (if_pos (by simp; omega)).trans ?_
  refine ba (a:=(s,(),(s.length:Int),(k:Int),((),(),()),out ++ wr1 s[k],())) ?_ ?_
  ·refine ba hx (ba (F5 F s[k]) ?_)
   cases hp:uo s[k]
   ·rw [if_neg (by simp)]
    have ht:=JJ ⟨s[k].toNat,s[k].toNat_lt⟩
    have hn:s[k].toNat<256:=s[k].toNat_lt
    simp only at ht
    simp only [kN F out _ (by omega),Option.bind_some,hx,ht.1,ht.2,zT _ (show s[k].toNat / 16<16 by omega),zT _ (show s[k].toNat % 16<16 by omega)]
    rw [kN F _ _ (by simp; omega)]
    simp only [Option.bind_some]
    rw [kN F _ _ (by simp; omega)]
    simp only [Option.bind_some,byte_back]
    unfold wr1
    rw [hp,if_neg (by simp)]
    simp
   ·rw [if_pos rfl]
    simp only [hx,Option.bind_some,kN F out _ (by omega),byte_back]
    unfold wr1
    rw [hp,if_pos rfl]
  ·simp only
   rw [pk k (by omega)]
theorem yK (s:B8) (hs:s.length≤1000):ae (fun F=>jd F s) (eR s):=by
 unfold jd
 have hl:=sy s hs s.length 0 [] (by omega) (by simp; omega)
 rw [List.drop_zero,List.nil_append] at hl
 exact ae.bind hl.run (.of fun F=>rfl)
theorem sx (s:B8) (hs:s.length≤1000) : ∀ (m k:Nat) (out:B8),k+m=s.length→out.length+3 * m≤50000 →
  ag cL (s,out,(k:Int),()) (out ++ eR (s.drop k),())
 | 0,k,out,h,ho=>by
  refine ag.fin (.of fun F => ?_)
  unfold cL
  refine (if_neg (by simp; omega)).trans ?_
  rw [List.drop_eq_nil_of_le (by omega)]
  simp [eR]
 | m+1,k,out,h,ho=>by
  have hk:k<s.length:=by omega
  have hx:=qf s k (k:Int) rfl hk
  have hw:=yv s[k]
  have hd:=List.drop_eq_getElem_cons hk
  have hsub:sub s (k:Int) ((k+1:Nat):Int)=some [s[k]]:=by
   rw [Lu s k (k+1) (by omega) (by omega),hd,show k+1 - k=1 by omega]
   rfl
  rw [hd]
  have e:out ++ eR (s[k] :: s.drop (k+1))=(out ++ wr1 s[k]) ++ eR (s.drop (k+1)):=by unfold eR; rw [List.flatMap_cons,List.append_assoc]
  rw [e]
  refine ag.step (.of fun F => ?_) (sx s hs m (k+1) (out ++ wr1 s[k]) (by omega) (by simp; omega))
  unfold cL
  refine (if_pos (by simp; omega)).trans ?_
  refine ba (a:=(s,out ++ wr1 s[k],(k:Int),())) ?_ ?_
  ·refine ba hx ?_
   have hn:s[k].toNat<256:=s[k].toNat_lt
   have hI:uo s[k]=ux s[k].toNat:=rfl
   have hW:wr1 s[k]=if uo s[k]=true then [s[k]] else [37,Bv (s[k].toNat / 16),Bv (s[k].toNat % 16)]:=rfl
   rw [hW,hI]
   generalize hg:s[k].toNat=n at hn
   obtain ⟨b1,h1⟩ : ∃ b,b=decide (65≤n∧n≤90):=⟨_,rfl⟩
   obtain ⟨b2,h2⟩ : ∃ b,b=(b1 || decide (97≤n∧n≤122)):=⟨_,rfl⟩
   obtain ⟨b3,h3⟩ : ∃ b,b=(b2 || decide (48≤n∧n≤57)):=⟨_,rfl⟩
   obtain ⟨b4,h4⟩ : ∃ b,b=(b3 || decide ((n:Int)=45)):=⟨_,rfl⟩
   obtain ⟨b5,h5⟩ : ∃ b,b=(b4 || decide ((n:Int)=46)):=⟨_,rfl⟩
   obtain ⟨b6,h6⟩ : ∃ b,b=(b5 || decide ((n:Int)=95)):=⟨_,rfl⟩
   obtain ⟨b7,h7⟩ : ∃ b,b=(b6 || decide ((n:Int)=126)):=⟨_,rfl⟩
   have hp:ux n=b7:=by
    unfold ux
    rw [h7,h6,h5,h4,h3,h2,h1,Bool.eq_iff_iff]
    simp only [decide_eq_true_eq,Bool.or_eq_true]
    omega
   have dn : ∀ a b:Nat,(if decide (((a:Nat):Int)≤(n:Int))=true then some (s,out,(k:Int),(n:Int),decide ((n:Int)≤((b:Nat):Int)),()) else some (s,out,(k:Int),(n:Int),false,()))=some (s,out,(k:Int),(n:Int),decide (a≤n∧n≤b),()):=by
    intro a b
    by_cases ha:a≤n
    ·rw [if_pos (decide_eq_true (by omega))]
     simp only [Option.some.injEq,Prod.mk.injEq,true_and,and_true,decide_eq_decide]
     omega
    ·rw [if_neg (by simp; omega),decide_eq_false (by omega)]
   refine ba (a:=(s,out,(k:Int),(n:Int),b1,())) (by rw [h1]; exact dn 65 90) ?_
   refine ba (a:=(s,out,(k:Int),(n:Int),b2,())) (by cases b1 <;> rw [h2] <;> first | exact (if_pos rfl).trans (dn 97 122) | exact if_neg (by simp)) ?_
   refine ba (a:=(s,out,(k:Int),(n:Int),b3,())) (by cases b2 <;> rw [h3] <;> first | exact (if_pos rfl).trans (dn 48 57) | exact if_neg (by simp)) ?_
   refine ba (a:=(s,out,(k:Int),(n:Int),b4,())) (by cases b3 <;> rw [h4] <;> first | exact if_pos rfl | exact if_neg (by simp)) ?_
   refine ba (a:=(s,out,(k:Int),(n:Int),b5,())) (by cases b4 <;> rw [h5] <;> first | exact if_pos rfl | exact if_neg (by simp)) ?_
   refine ba (a:=(s,out,(k:Int),(n:Int),b6,())) (by cases b5 <;> rw [h6] <;> first | exact if_pos rfl | exact if_neg (by simp)) ?_
   refine ba (a:=(s,out,(k:Int),(n:Int),b7,())) (by cases b6 <;> rw [h7] <;> first | exact if_pos rfl | exact if_neg (by simp)) ?_
   rw [hp]
   cases b7
   ·simp only [Bool.false_eq_true,if_false]
    rw [if_pos (by simp; omega)]
    have w1:IntKind.i64.wrap (n:Int)=(n:Int):=wrap64 _ (by omega) (by omega)
    have w2:IntKind.i64.wrap ((n:Int).tdiv 16)=((n / 16:Nat):Int):=by
     rw [Int.tdiv_eq_ediv_of_nonneg (by omega),wrap64 _ (by omega) (by omega)]
     omega
    have w3:(n:Int).tmod 16=((n % 16:Nat):Int):=by
     rw [Int.tmod_eq_emod_of_nonneg (by omega)]
     omega
    simp only [w1,w2,w3,Hh F _ (show n / 16<16 by omega),Hh F _ (show n % 16<16 by omega),Option.bind_some]
    rw [if_pos (by simp; omega),if_pos (by simp; omega)]
    simp
   ·rw [if_pos rfl,if_pos rfl]
    refine ba (a := [s[k]]) (by rw [pk k (by omega)]; exact hsub) ?_
    rw [if_pos (by simp; omega)]
  ·simp only
   rw [pk k (by omega)]
theorem xZ (s:B8) (hs:s.length≤1000):ae (fun F=>dI F s) (eR s):=by
 unfold dI
 have hl:=sx s hs s.length 0 [] (by omega) (by simp; omega)
 rw [List.drop_zero,List.nil_append] at hl
 exact ae.bind hl.run (.of fun F=>rfl)
end Go.Vm
